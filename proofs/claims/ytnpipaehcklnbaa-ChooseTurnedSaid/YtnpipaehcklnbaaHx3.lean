-- laid by wip/hyb.py (the kit's printer with turns of ours)
import Derived.Test.YtnpipaehcklnbaaHx0
import Derived.Test.YtnpipaehcklnbaaHx1
import Derived.Test.YtnpipaehcklnbaaHx2
namespace Go.Proofs.Ytnpipaehcklnbaa.H
open Go.RowKit Go.Proofs.YtnpipaehcklnbaaW.PrintWords Go.Proofs.YtnpipaehcklnbaaW.PrintLast Go.Proofs.YtnpipaehcklnbaaW.PrintMore
attribute [local go_sem] max2_int min2_int max_two min_two max_three min_three max_four min_four   -- for this text's walks alone
set_option linter.unusedVariables false
set_option linter.unusedSimpArgs false

/-! ### choose_Meant: function 12 -/
def notTakes (k : Nat) (key : ByteArray) (t : S42) : Option Bool := (choose_takes.f k t.f0 t.f1 t.f2 t.f3 key).bind fun b => some (!b)
theorem notTakes_leo (k : Nat) (key : ByteArray) (t : S42) : LeO (notTakes k key t) (notTakes (k + 1) key t) := LeO.bind (choose_takes.mono _ _ _ _ _ k) (fun _ => LeO.refl _)
theorem closureMeant (k : Nat) (key : ByteArray) (B : Nat) (x : S42) (A3 : Option Addr) (c3 : Nat) (b : Bool) (W : World) (hB : W.cell? ⟨B, 0, none⟩ = some (.string key)) (hl : x.f3.length ≤ c3) (hC : Kd.C Kd.string W A3 x.f3.length x.f3) (h : notTakes k key x = some b) :
    Calls Try.prog 21 #[.agg #[.int .i64 x.f0, .string x.f1, .string x.f2, .slice A3 x.f3.length c3], .pointer (some ⟨B, 0, none⟩)] W fun e w' => e = .returned (.bool b) ∧ Below W.heap.size W w' := by
  have hlt : B < W.heap.size := World.block_lt_of_cell? W _ hB
  obtain ⟨s, hs, hb⟩ := Option.bind_eq_some_iff.1 h
  clear h
  obtain rfl := Option.some.inj hb
  clear hb
  have HS := Aside0.mk hs
  clear hs
  have HCC := Aside0.mk hC
  clear hC
  have hB2 : ∀ o, (W.alloc o).cell? ⟨B, 0, none⟩ = some (.string key) := fun o => pw_cell_below (below_alloc (Below.refl _ _) o) hB
  go_enter Try.func21, Try.ntmps21
  go_wp2_with fail
  refine (choose_takes.calls k x.f0 x.f1 x.f2 A3 c3 x.f3 key s _ (Kd.C_below HCC.out (below_alloc (Below.refl _ _) _)) hl HS.out).mono ?_
  rintro e w' ⟨rfl, hb⟩
  go_wp2
  go_ret
  exact ⟨rfl, below_then (below_alloc (Below.refl _ _) _) (below_alloc (Below.refl _ _) _).size hb⟩
def choose_Meant.f (k : Nat) (l0 : List S42) (a1 : ByteArray) : Option Bool := (choose_Check.f k l0).bind fun e => if e = 0 then (anyF (notTakes k a1) l0).bind fun b => some (!b) else some false
theorem choose_Meant.mono (a0 : List S42) (a1 : ByteArray) (k : Nat) : LeO (choose_Meant.f k a0 a1) (choose_Meant.f (k + 1) a0 a1) := LeO.bind (choose_Check.mono a0 k) (fun _ => LeO.ite (LeO.bind (anyF_leo (notTakes_leo k a1) a0) (fun _ => LeO.refl _)) (LeO.refl _))
set_option maxHeartbeats 1000000 in
theorem choose_Meant.calls (k : Nat) (A0 : Option Addr) (c0 : Nat) (l0 : List S42) (a1 : ByteArray) (r : Bool) (w : World) (hr0 : Kd.C k42 w A0 l0.length l0) (hc0 : l0.length ≤ c0) (h : choose_Meant.f k l0 a1 = some r) :
    Calls Try.prog 12 #[.slice A0 l0.length c0, .string a1] w fun e w' => e = .returned (.bool r) ∧ Below w.heap.size w w' := by
  have eg : ∀ args w, (callFunc 21 args).run Try.prog w = .ok (.enter 21 args) w := enter_at Try.func21 (by kernel_rfl) rfl
  obtain ⟨e, he, h⟩ := Option.bind_eq_some_iff.1 h
  have hw1 : Below w.heap.size w (w.alloc (.cells #[.string a1] 9)) := below_alloc (Below.refl _ _) _
  have HK := Aside0.mk (choose_Check.calls k A0 c0 l0 e _ (Kd.C_below hr0 hw1) hc0 he)
  clear he
  by_cases h0 : e = 0
  · subst h0
    rw [if_pos rfl] at h
    obtain ⟨b, hb, h⟩ := Option.bind_eq_some_iff.1 h
    have HR := Aside0.mk (Option.some.inj h)
    clear h
    have HB := Aside0.mk hb
    clear hb
    have HC := Aside0.mk hr0
    clear hr0
    have HW := Aside0.mk hw1
    clear hw1
    go_enter Try.func12, Try.ntmps12
    go_wp2_with fail
    refine HK.out.mono ?_
    rintro e w1 ⟨rfl, hb1⟩
    have hcell : w1.cell? ⟨w.heap.size, 0, none⟩ = some (.string a1) := pw_cell_below hb1 (by simp)
    have HCELL := Aside0.mk hcell
    clear hcell
    have HB1 := Aside0.mk hb1
    clear hb1
    go_wp2_with fail
    refine (ContainsFunc_calls 21 #[.pointer (some ⟨w.heap.size, 0, none⟩)] eg (notTakes k a1) A0 c0 l0 b w1 (Kd.C_below (Kd.C_below HC.out HW.out) HB1.out) hc0 (fun W x A3 c3 b' hB hl hC hh => closureMeant k a1 w.heap.size x A3 c3 b' W (pw_cell_below hB HCELL.out) hl hC hh) HB.out).mono ?_
    rintro e w2 ⟨rfl, hb2⟩
    go_wp2
    go_ret
    exact ⟨by rw [← HR.out]; rfl, below_then (below_then HW.out HW.out.size HB1.out) (Nat.le_trans HW.out.size HB1.out.size) hb2⟩
  · rw [if_neg h0] at h
    obtain rfl := Option.some.inj h
    clear h hr0
    have d0 : (e == 0) = false := beq_eq_false_iff_ne.2 h0
    clear h0
    have HW := Aside0.mk hw1
    clear hw1
    go_enter Try.func12, Try.ntmps12
    go_wp2_with fail
    refine HK.out.mono ?_
    rintro e w1 ⟨rfl, hb1⟩
    go_wp2
    go_ret
    exact ⟨rfl, below_then HW.out HW.out.size hb1⟩

/-! ### samphireref16_Strings: function 16 -/
def samphireref16_Strings.l0 : Nat → List ByteArray → List ByteArray → Int → Option (Bool)
  | 0, _, _, _ => none
  | k + 1, x0, x1, x5 => if x5 < (x0.length : Int) then (if 0 ≤ x5 then (if x5 < (x1.length : Int) then (if (rdOf ByteArray.empty x0 x5).toList = (rdOf ByteArray.empty x1 x5).toList then (samphireref16_Strings.l0 k x0 x1 (wrap64 (x5 + 1))) else (some false)) else (none)) else (none)) else (some true)
def samphireref16_Strings.f (k : Nat) (l0 : List ByteArray) (l1 : List ByteArray) : Option (Bool) := if (l0.length : Int) = (l1.length : Int) then (samphireref16_Strings.l0 k l0 l1 0) else (some false)
theorem samphireref16_Strings.mono_l : ∀ k, (∀ y0 y1 y2, LeO (samphireref16_Strings.l0 k y0 y1 y2) (samphireref16_Strings.l0 (k + 1) y0 y1 y2))
  | 0 => fun _ _ _ r h => by simp [samphireref16_Strings.l0] at h
  | k + 1 => by
    have ih0 := samphireref16_Strings.mono_l k
    · intro y0 y1 y2
      unfold samphireref16_Strings.l0
      repeat' first
      | (with_reducible exact ih0 _ _ _)
      | (with_reducible exact LeO.refl _)
      | (with_reducible exact LeO.none _)
      | (with_reducible refine LeO.ite ?_ ?_)
      | (with_reducible refine LeO.bind ?_ (fun _ => ?_))
      | exact ih0 _ _ _
      | exact LeO.none _
      | refine LeO.ite ?_ ?_
      | refine LeO.bind ?_ (fun _ => ?_)
theorem samphireref16_Strings.mono : ∀ a0 a1 k, LeO (samphireref16_Strings.f k a0 a1) (samphireref16_Strings.f (k + 1) a0 a1) := by
  intro a0 a1 k
  have ih0 := samphireref16_Strings.mono_l k
  unfold samphireref16_Strings.f
  repeat' first
      | (with_reducible exact ih0 _ _ _)
      | (with_reducible exact LeO.refl _)
      | (with_reducible exact LeO.none _)
      | (with_reducible refine LeO.ite ?_ ?_)
      | (with_reducible refine LeO.bind ?_ (fun _ => ?_))
      | exact ih0 _ _ _
      | exact LeO.none _
      | refine LeO.ite ?_ ?_
      | refine LeO.bind ?_ (fun _ => ?_)
set_option maxHeartbeats 8000000 in
set_option maxRecDepth 100000 in
theorem samphireref16_Strings.calls (k : Nat) (A0 : Option Addr) (c0 : Nat) (l0 : List ByteArray) (A1 : Option Addr) (c1 : Nat) (l1 : List ByteArray) (r : Bool) (w : World) (hr0 : Kd.C Kd.string w A0 l0.length l0) (hc0 : l0.length ≤ c0) (hr1 : Kd.C Kd.string w A1 l1.length l1) (hc1 : l1.length ≤ c1) (h : samphireref16_Strings.f k l0 l1 = some r) :
    Calls Try.prog 16 #[.slice A0 l0.length c0, .slice A1 l1.length c1] w fun e w' => e = .returned (.bool r) ∧ Drawn0 w w' := by
  have HR0 := Aside0.mk hr0
  have HC0 := Aside0.mk hc0
  clear hr0 hc0
  have HR1 := Aside0.mk hr1
  have HC1 := Aside0.mk hc1
  clear hr1 hc1
  have H : (if (l0.length : Int) = (l1.length : Int) then (samphireref16_Strings.l0 k l0 l1 0) else (some false)) = some r := h
  clear h
  by_cases c3 : (l0.length : Int) = (l1.length : Int)
  · rw [if_pos c3] at H
    have c3b0 : ((l0.length : Int) == (l1.length : Int)) = true := beq_iff_eq.mpr c3
    have c3b1 : ((l0.length : Int) != (l1.length : Int)) = false := bne_eq_false_iff_eq.mpr c3
    have c3b2 : (l0.length == l1.length) = true := by first | simpa using c3 | (simp at c3 ⊢; omega)
    clear c3
    have H' := Aside0.mk H
    clear H
    go_enter Try.func16, Try.ntmps16
    go_wp2
    repeat (go_quiet (fail); try go_wp2)
    go_loopg [5] k (fun kq v5 w' => ∃ (x5_1 : Int), v5 = .int .i64 x5_1 ∧ Aside0 (samphireref16_Strings.l0 kq l0 l1 x5_1 = some r) ∧ Aside0 (kq ≤ k) ∧ Drawn0 w w')
    case atStart => exact ⟨(0), (by first | rfl | (simp; done) | (simp [*]; done)), H', ⟨Nat.le_refl _⟩, by repeat (first | exact Drawn0.refl _ | apply Drawn0.step)⟩
    case round =>
      clear H'
      try clear c1
      try clear p2
      try clear c3
      try clear c3b0
      try clear c3b1
      try clear c3b2
      obtain ⟨x5_1, rfl, HA, HK1, ⟨m1, rfl⟩⟩ := hrel
      cases gk with
      | zero => exact absurd HA.out (by simp [samphireref16_Strings.l0])
      | succ k1 =>
        have H := HA.out
        clear HA
        simp only [samphireref16_Strings.l0] at H
        by_cases c4 : x5_1 < (l0.length : Int)
        · rw [if_pos c4] at H
          have c4b0 : decide (x5_1 < (l0.length : Int)) = true := decide_eq_true c4
          clear c4
          by_cases c5 : 0 ≤ x5_1
          · rw [if_pos c5] at H
            have c5b0 : decide (0 ≤ x5_1) = true := decide_eq_true c5
            clear c5
            by_cases c6 : x5_1 < (l1.length : Int)
            · rw [if_pos c6] at H
              have c6b0 : decide (x5_1 < (l1.length : Int)) = true := decide_eq_true c6
              clear c6
              by_cases c7 : (rdOf ByteArray.empty l0 x5_1).toList = (rdOf ByteArray.empty l1 x5_1).toList
              · rw [if_pos c7] at H
                have c7b0 : ((rdOf ByteArray.empty l0 x5_1).toList == (rdOf ByteArray.empty l1 x5_1).toList) = true := beq_iff_eq.mpr c7
                have c7b1 : ((rdOf ByteArray.empty l0 x5_1).toList != (rdOf ByteArray.empty l1 x5_1).toList) = false := bne_eq_false_iff_eq.mpr c7
                clear c7
                have H' := Aside0.mk H
                clear H
                have p135 : 0 ≤ (x5_1 : Int) := of_decide_eq_true (by first | (with_reducible assumption) | assumption)
                have q135 : x5_1 < (l0.length : Int) := of_decide_eq_true (by first | (with_reducible assumption) | assumption)
                obtain ⟨ad135, e135, hx135_0⟩ := Kd.at_string HR0.out x5_1 p135 q135
                cases e135
                replace p135 := eq_true p135
                replace q135 := eq_true q135
                have p136 : 0 ≤ (x5_1 : Int) := of_decide_eq_true (by first | (with_reducible assumption) | assumption)
                have q136 : x5_1 < (l1.length : Int) := of_decide_eq_true (by first | (with_reducible assumption) | assumption)
                obtain ⟨ad136, e136, hx136_0⟩ := Kd.at_string HR1.out x5_1 p136 q136
                cases e136
                replace p136 := eq_true p136
                replace q136 := eq_true q136
                go_wp2
                repeat (go_quiet (fail); try go_wp2)
                go_roundg k1
                case measure => have := HK1.out; omega
                case rel => exact ⟨(wrap64 (x5_1 + 1)), (by first | rfl | (simp; done) | (simp [*]; done)), H', ⟨by have := HK1.out; omega⟩, by repeat (first | exact Drawn0.refl _ | apply Drawn0.step)⟩
              · rw [if_neg c7] at H
                have c7b0 : ((rdOf ByteArray.empty l0 x5_1).toList == (rdOf ByteArray.empty l1 x5_1).toList) = false := beq_eq_false_iff_ne.mpr c7
                have c7b1 : ((rdOf ByteArray.empty l0 x5_1).toList != (rdOf ByteArray.empty l1 x5_1).toList) = true := bne_iff_ne.mpr c7
                obtain rfl := Option.some.inj H
                have p135 : 0 ≤ (x5_1 : Int) := of_decide_eq_true (by first | (with_reducible assumption) | assumption)
                have q135 : x5_1 < (l0.length : Int) := of_decide_eq_true (by first | (with_reducible assumption) | assumption)
                obtain ⟨ad135, e135, hx135_0⟩ := Kd.at_string HR0.out x5_1 p135 q135
                cases e135
                replace p135 := eq_true p135
                replace q135 := eq_true q135
                have p136 : 0 ≤ (x5_1 : Int) := of_decide_eq_true (by first | (with_reducible assumption) | assumption)
                have q136 : x5_1 < (l1.length : Int) := of_decide_eq_true (by first | (with_reducible assumption) | assumption)
                obtain ⟨ad136, e136, hx136_0⟩ := Kd.at_string HR1.out x5_1 p136 q136
                cases e136
                replace p136 := eq_true p136
                replace q136 := eq_true q136
                go_wp2
                repeat (go_quiet (fail); try go_wp2)
                go_ret
                exact ⟨by first | rfl | (simp; done) | (simp [*]; done), by repeat (first | exact Drawn0.refl _ | apply Drawn0.step)⟩
            · rw [if_neg c6] at H
              exact absurd H (by simp)
          · rw [if_neg c5] at H
            exact absurd H (by simp)
        · rw [if_neg c4] at H
          have c4b0 : decide (x5_1 < (l0.length : Int)) = false := decide_eq_false c4
          clear c4
          obtain rfl := Option.some.inj H
          go_wp2
          repeat (go_quiet (fail); try go_wp2)
          go_ret
          exact ⟨by first | rfl | (simp; done) | (simp [*]; done), by repeat (first | exact Drawn0.refl _ | apply Drawn0.step)⟩
  · rw [if_neg c3] at H
    have c3b0 : ((l0.length : Int) == (l1.length : Int)) = false := beq_eq_false_iff_ne.mpr c3
    have c3b1 : ((l0.length : Int) != (l1.length : Int)) = true := bne_iff_ne.mpr c3
    have c3b2 : (l0.length == l1.length) = false := by first | simpa using c3 | (simp at c3 ⊢; omega)
    obtain rfl := Option.some.inj H
    go_enter Try.func16, Try.ntmps16
    go_wp2
    repeat (go_quiet (fail); try go_wp2)
    go_ret
    exact ⟨by first | rfl | (simp; done) | (simp [*]; done), by repeat (first | exact Drawn0.refl _ | apply Drawn0.step)⟩

/-! ### choose_Keys: function 17 -/
def choose_Keys.l0 : Nat → List (S42) → List ByteArray → List ByteArray → Int → Int → Option (List ByteArray)
  | 0, _, _, _, _, _ => none
  | k + 1, x0, x5, x8, x9, x10 => if x10 < x9 then (if 0 ≤ x10 then (if x10 < (x8.length : Int) then ((choose_Meant.f k x0 (rdOf ByteArray.empty x8 x10)).bind fun t138 => (if t138 = true then (if x5.length < 8796093022208 then (choose_Keys.l0 k x0 (x5 ++ [rdOf ByteArray.empty x8 x10]) x8 x9 (wrap64 (x10 + 1))) else (none)) else (choose_Keys.l0 k x0 x5 x8 x9 (wrap64 (x10 + 1))))) else (none)) else (none)) else (some x5)
def choose_Keys.f (k : Nat) (l0 : List (S42)) (l1 : List ByteArray) : Option (List ByteArray) := choose_Keys.l0 k l0 ([] : List ByteArray) l1 (l1.length : Int) 0
theorem choose_Keys.mono_l : ∀ k, (∀ y0 y1 y2 y3 y4, LeO (choose_Keys.l0 k y0 y1 y2 y3 y4) (choose_Keys.l0 (k + 1) y0 y1 y2 y3 y4))
  | 0 => fun _ _ _ _ _ r h => by simp [choose_Keys.l0] at h
  | k + 1 => by
    have ih0 := choose_Keys.mono_l k
    · intro y0 y1 y2 y3 y4
      unfold choose_Keys.l0
      repeat' first
      | (with_reducible exact ih0 _ _ _ _ _)
      | (with_reducible exact choose_Meant.mono _ _ _)
      | (with_reducible exact LeO.refl _)
      | (with_reducible exact LeO.none _)
      | (with_reducible refine LeO.ite ?_ ?_)
      | (with_reducible refine LeO.bind ?_ (fun _ => ?_))
      | exact ih0 _ _ _ _ _
      | exact choose_Meant.mono _ _ _
      | exact LeO.none _
      | refine LeO.ite ?_ ?_
      | refine LeO.bind ?_ (fun _ => ?_)
theorem choose_Keys.mono : ∀ a0 a1 k, LeO (choose_Keys.f k a0 a1) (choose_Keys.f (k + 1) a0 a1) := by
  intro a0 a1 k
  have ih0 := choose_Keys.mono_l k
  unfold choose_Keys.f
  repeat' first
      | (with_reducible exact ih0 _ _ _ _ _)
      | (with_reducible exact choose_Meant.mono _ _ _)
      | (with_reducible exact LeO.refl _)
      | (with_reducible exact LeO.none _)
      | (with_reducible refine LeO.ite ?_ ?_)
      | (with_reducible refine LeO.bind ?_ (fun _ => ?_))
      | exact ih0 _ _ _ _ _
      | exact choose_Meant.mono _ _ _
      | exact LeO.none _
      | refine LeO.ite ?_ ?_
      | refine LeO.bind ?_ (fun _ => ?_)
set_option maxHeartbeats 8000000 in
set_option maxRecDepth 100000 in
theorem choose_Keys.calls (k : Nat) (A0 : Option Addr) (c0 : Nat) (l0 : List (S42)) (A1 : Option Addr) (c1 : Nat) (l1 : List ByteArray) (r : List ByteArray) (w : World) (hr0 : Kd.C k42 w A0 l0.length l0) (hc0 : l0.length ≤ c0) (hr1 : Kd.C Kd.string w A1 l1.length l1) (hc1 : l1.length ≤ c1) (h : choose_Keys.f k l0 l1 = some r) :
    Calls Try.prog 17 #[.slice A0 l0.length c0, .slice A1 l1.length c1] w fun e w' => ∃ v0_ : Value, e = .returned (v0_) ∧ Kd.R Kd.string 9 w' w.heap.size (fun _ => True) v0_ r ∧ Below w.heap.size w w' := by
  have HR0 := Aside0.mk hr0
  have HC0 := Aside0.mk hc0
  clear hr0 hc0
  have HR1 := Aside0.mk hr1
  have HC1 := Aside0.mk hc1
  clear hr1 hc1
  have HB := Aside0.mk (Below.refl w.heap.size w)
  have H : (choose_Keys.l0 k l0 ([] : List ByteArray) l1 (l1.length : Int) 0) = some r := h
  clear h
  have H' := Aside0.mk H
  clear H
  go_enter Try.func17, Try.ntmps17
  go_wp2
  go_loopg [5, 10] k (fun kq v5 v10 w' => ∃ (x5_1 : List ByteArray) (x10_1 : Int), v10 = .int .i64 x10_1 ∧ Aside0 (choose_Keys.l0 kq l0 x5_1 l1 (l1.length : Int) x10_1 = some r) ∧ Aside0 (kq ≤ k) ∧ Aside0 (Kd.R Kd.string 9 w' w.heap.size (fun _ => True) v5 x5_1) ∧ Aside0 (Below w.heap.size w w'))
  case atStart => exact ⟨(([] : List ByteArray)), (0), (by first | rfl | (simp; done) | (simp [*]; done)), H', ⟨Nat.le_refl _⟩, ⟨by first | exact Kd.R_nil _ _ _ _ _ | exact Kd.N_nil _ _ _ _ _ | exact Kd.V_nil _ _ _ _ _ | exact Kd.Q_nil _ _ _ _ _ | exact Kd.S_nil _ _ _ _ _⟩, ⟨by repeat (first | (with_reducible first | exact HB.out | apply below_alloc | apply pw_below_drewN | apply below_drew1) | exact HB.out)⟩⟩
  case round =>
    clear H'
    try clear c1
    try clear p2
    obtain ⟨x5_1, x10_1, rfl, HA, HK1, HO_5, HB⟩ := hrel
    cases gk with
    | zero => exact absurd HA.out (by simp [choose_Keys.l0])
    | succ k1 =>
      have H := HA.out
      clear HA
      simp only [choose_Keys.l0] at H
      by_cases c3 : x10_1 < (l1.length : Int)
      · rw [if_pos c3] at H
        have c3b0 : decide (x10_1 < (l1.length : Int)) = true := decide_eq_true c3
        clear c3
        by_cases c4 : 0 ≤ x10_1
        · rw [if_pos c4] at H
          have c4b0 : decide (0 ≤ x10_1) = true := decide_eq_true c4
          clear c4
          by_cases c5 : x10_1 < (l1.length : Int)
          · rw [if_pos c5] at H
            have c5b0 : decide (x10_1 < (l1.length : Int)) = true := decide_eq_true c5
            clear c5
            replace H := Option.bind_eq_some_iff.mp H
            obtain ⟨t138, A60, H⟩ := H
            replace H : (if t138 = true then (if x5_1.length < 8796093022208 then (choose_Keys.l0 k1 l0 (x5_1 ++ [rdOf ByteArray.empty l1 x10_1]) l1 (l1.length : Int) (wrap64 (x10_1 + 1))) else (none)) else (choose_Keys.l0 k1 l0 x5_1 l1 (l1.length : Int) (wrap64 (x10_1 + 1)))) = some r := H
            have A6 := Aside0.mk A60
            clear A60
            by_cases c7 : t138 = true
            · subst c7
              have H1 : (if x5_1.length < 8796093022208 then (choose_Keys.l0 k1 l0 (x5_1 ++ [rdOf ByteArray.empty l1 x10_1]) l1 (l1.length : Int) (wrap64 (x10_1 + 1))) else (none)) = some r := by rw [if_pos rfl] at H; exact H
              clear H
              have H := H1
              clear H1
              by_cases c8 : x5_1.length < 8796093022208
              · rw [if_pos c8] at H
                have LMc8 := Aside0.mk c8
                clear c8
                obtain ⟨y139, hy139⟩ : ∃ y_ : List ByteArray, y_ = (x5_1 ++ [rdOf ByteArray.empty l1 x10_1]) := ⟨_, rfl⟩
                replace H : (choose_Keys.l0 k1 l0 y139 l1 (l1.length : Int) (wrap64 (x10_1 + 1))) = some r := by first | (rw [hy139]; with_reducible exact H) | (have H2_ := (Option.bind_some _ _).symm.trans H; rw [hy139]; with_reducible exact H2_) | (have H2_ := (Option.bind_some _ _).symm.trans H; with_reducible exact H2_) | with_reducible exact H | (rw [hy139]; exact H) | exact H
                have Ny139 := Aside0.mk hy139
                clear hy139
                have H' := Aside0.mk H
                clear H
                have p137 : 0 ≤ (x10_1 : Int) := of_decide_eq_true (by first | (with_reducible assumption) | assumption)
                have q137 : x10_1 < (l1.length : Int) := of_decide_eq_true (by first | (with_reducible assumption) | assumption)
                obtain ⟨ad137, e137, hx137_0⟩ := Kd.at_string HR1.out x10_1 p137 q137
                cases e137
                replace hx137_0 := (HB.out.cell (World.block_lt_of_cell? w _ hx137_0)).trans hx137_0
                replace p137 := eq_true p137
                replace q137 := eq_true q137
                go_wp2_with (first | ((with_reducible refine gate_callee (f := 12) rfl ?_); refine goesL_ (some 16) rfl rfl Try.func12 (by kernel_rfl) rfl #[.slice A0 l0.length c0, .string (rdOf ByteArray.empty l1 x10_1)] rfl (by (try simp only [List.map_toArray, List.map_cons, List.map_nil]); first | done | rfl | (simp only [List.length_drop, List.length_take]; rfl)) ?_; (with_reducible refine (choose_Meant.calls k1 _ _ l0 (rdOf ByteArray.empty l1 x10_1) true _ ?side1 ?side2 A6.out).mono ?_); (case side1 => repeat (first | exact (Kd.C_below HR0.out HB.out) | (with_reducible refine Kd.C_alloc ?_ _) | (with_reducible refine Kd.C_drewN ?_ _) | (with_reducible refine Kd.C_drew ?_))); (case side2 => exact HC0.out); rintro e w9 ⟨rfl, hb⟩; refine ⟨_, rfl, ?_⟩; have n0_ := Aside0.mk (Kd.R_below (by (with_reducible repeat (first | apply Kd.R_alloc | apply Kd.R_drewN | apply Kd.R_drew)); exact HO_5.out) hb); have n1_ := Aside0.mk (below_step (by repeat (first | (with_reducible first | exact HB.out | apply below_alloc | apply pw_below_drewN | apply below_drew1) | exact HB.out)) hb); clear HO_5; clear HB; have HO_5 := n0_; have HB := n1_; clear n0_ n1_; (try clear hb); (try clear hb2); (try clear hk); (try clear hi)) | ((with_reducible refine gate_builtin (b := .append) (xs := #[.tmp 17, .tmp 19]) rfl ?_); at_builtin; refine Kd.R_append Kd.string (w0 := w) w.heap.size rfl (.tmp 17) (.tmp 19) 23 9 (.string ⟨#[]⟩) 16 rfl Try.underlying23 info9 rfl (by decide) (by omega) u5 x5_1 (rdOf ByteArray.empty l1 x10_1) [.string (rdOf ByteArray.empty l1 x10_1)] (fun _ => True) (fun _ => False) rfl rfl ?aP (fun _ hk => hk.elim) ?aF ?aO ?aB ?aS ?aL ?_; (case aP => exact rfl); (case aB => exact (by repeat (first | (with_reducible first | exact HB.out | apply below_alloc | apply pw_below_drewN | apply below_drew1) | exact HB.out))); (case aF => exact (fun _ _ => trivial)); (case aO => exact (by (with_reducible repeat (first | apply Kd.R_alloc | apply Kd.R_drewN | apply Kd.R_drew)); exact HO_5.out)); (case aS => exact (below_size (by repeat (first | (with_reducible first | exact HB.out | apply below_alloc | apply pw_below_drewN | apply below_drew1) | exact HB.out)))); (case aL => have := LMc8.out; omega); intro v140 w10 ho hb hg hat; rw [← Ny139.out] at ho; have n0_ := Aside0.mk (hb); have n1_ := Aside0.mk (ho); clear HB; clear HO_5; have HB := n0_; have HO141 := n1_; clear n0_ n1_; clear ho hb hg hat))
                go_roundg k1
                case measure => have := HK1.out; omega
                case rel => exact ⟨(y139), (wrap64 (x10_1 + 1)), (by first | rfl | (simp; done) | (simp [*]; done)), H', ⟨by have := HK1.out; omega⟩, ⟨by (with_reducible repeat (first | apply Kd.R_alloc | apply Kd.R_drewN | apply Kd.R_drew)); exact HO141.out⟩, ⟨by repeat (first | (with_reducible first | exact HB.out | apply below_alloc | apply pw_below_drewN | apply below_drew1) | exact HB.out)⟩⟩
              · rw [if_neg c8] at H
                exact absurd H (by simp)
            · replace c7 := Bool.eq_false_iff.mpr c7
              subst c7
              have H1 : (choose_Keys.l0 k1 l0 x5_1 l1 (l1.length : Int) (wrap64 (x10_1 + 1))) = some r := by rw [if_neg (show ¬ (false = true) by decide)] at H; exact H
              clear H
              have H := H1
              clear H1
              have H' := Aside0.mk H
              clear H
              have p137 : 0 ≤ (x10_1 : Int) := of_decide_eq_true (by first | (with_reducible assumption) | assumption)
              have q137 : x10_1 < (l1.length : Int) := of_decide_eq_true (by first | (with_reducible assumption) | assumption)
              obtain ⟨ad137, e137, hx137_0⟩ := Kd.at_string HR1.out x10_1 p137 q137
              cases e137
              replace hx137_0 := (HB.out.cell (World.block_lt_of_cell? w _ hx137_0)).trans hx137_0
              replace p137 := eq_true p137
              replace q137 := eq_true q137
              go_wp2_with (first | ((with_reducible refine gate_callee (f := 12) rfl ?_); refine goesL_ (some 16) rfl rfl Try.func12 (by kernel_rfl) rfl #[.slice A0 l0.length c0, .string (rdOf ByteArray.empty l1 x10_1)] rfl (by (try simp only [List.map_toArray, List.map_cons, List.map_nil]); first | done | rfl | (simp only [List.length_drop, List.length_take]; rfl)) ?_; (with_reducible refine (choose_Meant.calls k1 _ _ l0 (rdOf ByteArray.empty l1 x10_1) false _ ?side1 ?side2 A6.out).mono ?_); (case side1 => repeat (first | exact (Kd.C_below HR0.out HB.out) | (with_reducible refine Kd.C_alloc ?_ _) | (with_reducible refine Kd.C_drewN ?_ _) | (with_reducible refine Kd.C_drew ?_))); (case side2 => exact HC0.out); rintro e w11 ⟨rfl, hb⟩; refine ⟨_, rfl, ?_⟩; have n0_ := Aside0.mk (Kd.R_below (by (with_reducible repeat (first | apply Kd.R_alloc | apply Kd.R_drewN | apply Kd.R_drew)); exact HO_5.out) hb); have n1_ := Aside0.mk (below_step (by repeat (first | (with_reducible first | exact HB.out | apply below_alloc | apply pw_below_drewN | apply below_drew1) | exact HB.out)) hb); clear HO_5; clear HB; have HO_5 := n0_; have HB := n1_; clear n0_ n1_; (try clear hb); (try clear hb2); (try clear hk); (try clear hi)))
              go_roundg k1
              case measure => have := HK1.out; omega
              case rel => exact ⟨(x5_1), (wrap64 (x10_1 + 1)), (by first | rfl | (simp; done) | (simp [*]; done)), H', ⟨by have := HK1.out; omega⟩, ⟨by (with_reducible repeat (first | apply Kd.R_alloc | apply Kd.R_drewN | apply Kd.R_drew)); exact HO_5.out⟩, ⟨by repeat (first | (with_reducible first | exact HB.out | apply below_alloc | apply pw_below_drewN | apply below_drew1) | exact HB.out)⟩⟩
          · rw [if_neg c5] at H
            exact absurd H (by simp)
        · rw [if_neg c4] at H
          exact absurd H (by simp)
      · rw [if_neg c3] at H
        have c3b0 : decide (x10_1 < (l1.length : Int)) = false := decide_eq_false c3
        clear c3
        obtain rfl := Option.some.inj H
        go_wp2
        go_ret
        exact ⟨_, by first | rfl | (simp [errW_none, errW_some] <;> rfl) | (simp [*, errW_none, errW_some] <;> rfl), by (with_reducible repeat (first | apply Kd.R_alloc | apply Kd.R_drewN | apply Kd.R_drew)); exact HO_5.out, by repeat (first | (with_reducible first | exact HB.out | apply below_alloc | apply pw_below_drewN | apply below_drew1) | exact HB.out)⟩

-- NOT PRINTED: function 33 (choose_Term_33)

-- NOT PRINTED: function 27 (choose_Term_27)

/-! ### choose_Both: function 18 -/
theorem own_grown0 {w : World} {base g n c : Nat} {e : TypeId} {xs : List Value} (h : w.ownsRow base e 4 (.slice (some ⟨g, 0, none⟩) n c) n xs) : w.ownsRow base e 4 (.slice (some ⟨g, 0, none⟩) 0 c) 0 [] := by
  have h2 := own_take h (Nat.zero_le n)
  simpa using h2
theorem infoTerm : (Try.prog.info? 42).map (fun i => (i.zero, i.size, i.bytes)) = some (some (.agg #[.int .i64 0, .string ⟨#[]⟩, .string ⟨#[]⟩, .slice none 0 0]), 4, 64) := by kernel_rfl
set_option maxHeartbeats 1000000 in
theorem Grow_calls (m : Int) (h0 : 0 ≤ m) (hm : m * 64 ≤ 140737488355328) (w : World) :
    Calls Try.prog 33 #[.slice none 0 0, .int .i64 m] w fun e w' => ∃ v, e = .returned v ∧ w'.ownsRow w.heap.size 42 4 v 0 [] ∧ Below w.heap.size w w' := by
  have d1 : decide (m < 0) = false := decide_eq_false (by omega)
  by_cases hp : 0 < m
  · have d2 : decide (0 < m) = true := decide_eq_true hp
    have d3 : decide (m > 0) = true := decide_eq_true hp
    have hmn : m.toNat * 64 ≤ 140737488355328 := by omega
    go_enter Try.func33, Try.ntmps33
    go_wp2_with (first | ((with_reducible refine gate_builtin (b := .append) (xs := #[.tmp 20, .tmp 21]) rfl ?_); at_builtin; refine Kd.R_append_zeros k42 (w0 := w) w.heap.size rfl (.tmp 20) (.tmp 21) 22 3 42 (.agg #[.int .i64 0, .string ⟨#[]⟩, .string ⟨#[]⟩, .slice none 0 0]) 64 rfl Try.underlying22 Try.underlying3 infoTerm rfl (by decide) (by omega) (.slice none 0 0) [] z42 m (fun _ => True) rfl rfl ?aZ (fun _ _ => trivial) ?aO h0 ?aB ?aS ?aL ?_; (case aZ => exact k42_mkM _ _ _ z42 (Kd.R_nil _ _ _ _ _)); (case aO => exact Kd.R_nil _ _ _ _ _); (case aB => exact Below.refl _ _); (case aS => exact Nat.le_refl _); (case aL => simpa using hmn); intro v1 w1 hr hb hg hat; obtain ⟨inner, hown⟩ := Kd.R_own hr; have hlen : ([] ++ List.replicate m.toNat z42).length = m.toNat := (by simp); rw [hlen] at hown; have HO := Aside0.mk hown; have HB := Aside0.mk hb; clear hr hb hg hat hown hlen; obtain ⟨g, cap, rfl⟩ : ∃ g cap, v1 = .slice (some ⟨g, 0, none⟩) m.toNat cap := by (rcases HO.out.2 with ⟨_, hn⟩ | ⟨g, cap, cur, hv, _⟩; (omega); (exact ⟨g, cap, hv⟩))))
    go_ret
    exact ⟨_, rfl, own_grown0 HO.out, HB.out⟩
  · have d2 : decide (0 < m) = false := decide_eq_false hp
    obtain rfl : m = 0 := by omega
    go_enter Try.func33, Try.ntmps33
    go_wp2
    go_ret
    exact ⟨_, rfl, own_nil _ _ _ _, Below.refl _ _⟩
/-- The two rows that are put together, seen from the place before the turn x. -/
def upTo {α : Type} (l0 l1 : List α) (x : Int) : List α := if x = 0 then [] else if x = 1 then l0 else l0 ++ l1
theorem upTo_zero {α : Type} (l0 l1 : List α) : upTo l0 l1 0 = [] := rfl
theorem upTo_one {α : Type} (l0 l1 : List α) : upTo l0 l1 1 = l0 := rfl
theorem R_of_own0 {w : World} {base : Nat} {v : Value} (h : w.ownsRow base 42 4 v 0 []) (ok : Nat → Prop) (hok : ∀ k, base ≤ k → ok k) : Kd.N k42 42 w base ok v [] := Kd.R_N ⟨fun k hk => hok k (own_base h k hk), [], h, rfl, fun j x hj => by simp at hj⟩
set_option maxHeartbeats 1000000 in
theorem Concat_calls (P0_ P1_ : Nat → Prop) (A0 A1 : Option Addr) (c0 c1 : Nat) (l0 l1 : List S42) (g : Nat) (w : World)
   (hF0 : Kd.F k42 w (fun k_ => P0_ k_) A0 l0.length l0) (hc0 : l0.length ≤ c0) (hF1 : Kd.F k42 w (fun k_ => P1_ k_) A1 l1.length l1) (hc1 : l1.length ≤ c1)
   (hl : ((l0.length : Int) + l1.length) * 64 ≤ 140737488355328)
   (hg0 : w.cell? ⟨g, 0, none⟩ = some (.slice A0 l0.length c0)) (hg1 : w.cell? ⟨g, 1, none⟩ = some (.slice A1 l1.length c1)) :
   Calls Try.prog 27 #[.slice (some ⟨g, 0, none⟩) 2 2] w fun e w' => ∃ v, e = .returned v ∧ Kd.N k42 42 w' w.heap.size (fun k_ => (P0_ k_ ∨ P1_ k_) ∨ w.heap.size ≤ k_) v (l0 ++ l1) ∧ Below w.heap.size w w' := by
  have hn0 : (0 : Int) ≤ l0.length := Int.natCast_nonneg _
  have hn1 : (0 : Int) ≤ l1.length := Int.natCast_nonneg _
  have HF0 := Aside0.mk hF0
  have HF1 := Aside0.mk hF1
  clear hF0 hF1
  have HL := Aside0.mk hl
  have HG0 := Aside0.mk hg0
  have HG1 := Aside0.mk hg1
  clear hl hg0 hg1
  have w0 : wrap64 (l0.length : Int) = l0.length := by have := HL.out; unfold wrap64; omega
  have w1 : wrap64 ((l0.length : Int) + l1.length) = l0.length + l1.length := by have := HL.out; unfold wrap64; omega
  have e0 : decide ((l0.length : Int) < 0) = false := decide_eq_false (by omega)
  have e1 : decide ((l0.length : Int) + l1.length < 0) = false := decide_eq_false (by omega)
  go_enter Try.func27, Try.ntmps27
  go_wp2
  go_loopg [3, 5, 11] 2 (fun gg s3 s5 s11 wr => ∃ x3 x11 : Int, s3 = .int .i64 x3 ∧ s11 = .int .i64 x11 ∧ Aside0 ((x11 = 0 ∧ x3 = 0 ∧ 2 ≤ gg) ∨ (x11 = 1 ∧ x3 = l0.length ∧ 1 ≤ gg) ∨ (x11 = 2 ∧ x3 = l0.length + l1.length)) ∧ Aside0 (Below w.heap.size w wr))
  case atStart => exact ⟨0, 0, rfl, rfl, ⟨.inl ⟨rfl, rfl, by omega⟩⟩, ⟨Below.refl _ w⟩⟩
  case round =>
    obtain ⟨x3, x11, rfl, rfl, hk, BW⟩ := hrel
    have hr0 : wr.cell? ⟨g, 0, none⟩ = some (.slice A0 l0.length c0) := pw_cell_below BW.out HG0.out
    have hr1 : wr.cell? ⟨g, 1, none⟩ = some (.slice A1 l1.length c1) := pw_cell_below BW.out HG1.out
    rcases hk.out with ⟨rfl, rfl, hgg⟩ | ⟨rfl, rfl, hgg⟩ | ⟨rfl, rfl⟩
    · clear hk
      go_wp2
      go_roundg 1
      case measure => omega
      case rel => exact ⟨l0.length, 1, by simp [w0], by simp, ⟨.inr (.inl ⟨rfl, rfl, by omega⟩)⟩, BW⟩
    · clear hk
      go_wp2
      go_roundg 0
      case measure => omega
      case rel => exact ⟨l0.length + l1.length, 2, by simp [w1], by simp, ⟨.inr (.inr ⟨rfl, rfl⟩)⟩, BW⟩
    · clear hk
      go_wp2_with fail
      refine (Grow_calls ((l0.length : Int) + l1.length) (by omega) HL.out wr).mono ?_
      rintro e wg ⟨vg, rfl, hown, hbg⟩
      have HN := Aside0.mk (R_of_own0 (own_weaken hown BW.out.size) (fun k_ => (P0_ k_ ∨ P1_ k_) ∨ w.heap.size ≤ k_) (fun k hk => .inr hk))
      have HBG := Aside0.mk (below_then BW.out BW.out.size hbg)
      clear hown hbg hr0 hr1 BW
      have HX0 := Aside0.mk (Kd.F_bound HF0.out)
      have HX1 := Aside0.mk (Kd.F_bound HF1.out)
      clear HF0 HF1
      go_wp2
      go_loopg [6, 8, 27] 2 (fun gg s6 s8 s27 wr => ∃ x27 : Int, s27 = .int .i64 x27 ∧ Aside0 ((x27 = 0 ∧ 2 ≤ gg) ∨ (x27 = 1 ∧ 1 ≤ gg) ∨ (x27 = 2)) ∧ Aside0 (Kd.N k42 42 wr w.heap.size (fun k_ => (P0_ k_ ∨ P1_ k_) ∨ w.heap.size ≤ k_) s6 (upTo l0 l1 x27)) ∧ Aside0 (Below w.heap.size w wr))
      case atStart => exact ⟨0, rfl, ⟨.inl ⟨rfl, by omega⟩⟩, HN, HBG⟩
      case round =>
        clear HN HBG
        obtain ⟨x27, rfl, hk, HN, BW⟩ := hrel
        have hr0 : wr.cell? ⟨g, 0, none⟩ = some (.slice A0 l0.length c0) := pw_cell_below BW.out HG0.out
        have hr1 : wr.cell? ⟨g, 1, none⟩ = some (.slice A1 l1.length c1) := pw_cell_below BW.out HG1.out
        rcases hk.out with ⟨rfl, hgg⟩ | ⟨rfl, hgg⟩ | rfl
        · clear hk
          go_wp2_with (((with_reducible refine gate_builtin (b := .append) (xs := #[.tmp 31, .tmp 32]) rfl ?_); at_builtin; refine Kd.N_append_rows k42 (w0 := w) w.heap.size rfl (.tmp 31) (.tmp 32) 22 42 (.agg #[.int .i64 0, .string ⟨#[]⟩, .string ⟨#[]⟩, .slice none 0 0]) 64 rfl Try.underlying22 infoTerm rfl (by decide) (by omega) u6 (upTo l0 l1 0) l0 A0 l0.length c0 _ _ rfl rfl HN.out (Kd.F_below HX0.out BW.out) ?aO ?aF BW.out BW.out.size ?aL ?_; (case aO => exact fun k_ hk_ => ⟨.inl (.inl hk_.1), fun e => by have := Kd.N_base HN.out k_ e.symm; omega⟩); (case aF => exact fun k_ hk_ => .inr (Nat.le_trans BW.out.size hk_)); (case aL => have := HL.out; have e := upTo_zero l0 l1; rw [e, List.length_nil]; omega); intro v1 w1 hr hb hg hat; have HN1 := Aside0.mk hr; have HB1 := Aside0.mk hb; clear hr hb hg hat))
          go_roundg 1
          case measure => omega
          case rel => exact ⟨1, by simp, ⟨.inr (.inl ⟨rfl, by omega⟩)⟩, HN1, HB1⟩
        · clear hk
          go_wp2_with (((with_reducible refine gate_builtin (b := .append) (xs := #[.tmp 31, .tmp 32]) rfl ?_); at_builtin; refine Kd.N_append_rows k42 (w0 := w) w.heap.size rfl (.tmp 31) (.tmp 32) 22 42 (.agg #[.int .i64 0, .string ⟨#[]⟩, .string ⟨#[]⟩, .slice none 0 0]) 64 rfl Try.underlying22 infoTerm rfl (by decide) (by omega) u6 (upTo l0 l1 1) l1 A1 l1.length c1 _ _ rfl rfl HN.out (Kd.F_below HX1.out BW.out) ?aO ?aF BW.out BW.out.size ?aL ?_; (case aO => exact fun k_ hk_ => ⟨.inl (.inr hk_.1), fun e => by have := Kd.N_base HN.out k_ e.symm; omega⟩); (case aF => exact fun k_ hk_ => .inr (Nat.le_trans BW.out.size hk_)); (case aL => have := HL.out; have e := upTo_one l0 l1; rw [e]; omega); intro v1 w1 hr hb hg hat; have HN1 := Aside0.mk hr; have HB1 := Aside0.mk hb; clear hr hb hg hat))
          go_roundg 0
          case measure => omega
          case rel => exact ⟨2, by simp, ⟨.inr (.inr rfl)⟩, HN1, HB1⟩
        · clear hk
          go_wp2
          go_ret
          exact ⟨_, rfl, HN.out, BW.out⟩
def choose_Both.f (k : Nat) (l0 : List S42) (l1 : List S42) : Option (List S42 × Int) := if ((l0.length : Int) + l1.length) * 64 ≤ 140737488355328 then (choose_Check.f k l0).bind fun e => if e = 0 then ((choose_Check.f k l1).bind fun e' => if e' = 0 then (if ((l0 ++ l1).length : Int) > 8 then some ([], 1) else some (l0 ++ l1, 0)) else some ([], 1)) else some ([], 1) else none
theorem choose_Both.mono (a0 : List S42) (a1 : List S42) (k : Nat) : LeO (choose_Both.f k a0 a1) (choose_Both.f (k + 1) a0 a1) := LeO.ite (LeO.bind (choose_Check.mono a0 k) (fun _ => LeO.ite (LeO.bind (choose_Check.mono a1 k) (fun _ => LeO.refl _)) (LeO.refl _))) (LeO.refl _)
set_option maxHeartbeats 1000000 in
theorem choose_Both.calls (k : Nat) (P0_ : Nat → Prop) (A0 : Option Addr) (c0 : Nat) (l0 : List S42) (P1_ : Nat → Prop) (A1 : Option Addr) (c1 : Nat) (l1 : List S42) (r1 : List S42) (r2 : Int) (w : World) (hs0 : Kd.V k42 42 w w.heap.size (fun k_ => P0_ k_) (.slice A0 l0.length c0) l0) (hs1 : Kd.V k42 42 w w.heap.size (fun k_ => P1_ k_) (.slice A1 l1.length c1) l1) (h : choose_Both.f k l0 l1 = some (r1, r2)) :
    Calls Try.prog 18 #[.slice A0 l0.length c0, .slice A1 l1.length c1] w fun e w' => ∃ v0_ : Value, e = .returned (.tuple #[v0_, .int .i64 r2]) ∧ Kd.N k42 42 w' w.heap.size (fun k_ => ((P0_ k_ ∨ P1_ k_) ∨ w.heap.size ≤ k_)) v0_ r1 ∧ Below w.heap.size w w' := by
  unfold choose_Both.f at h
  by_cases hl : ((l0.length : Int) + l1.length) * 64 ≤ 140737488355328
  case neg => rw [if_neg hl] at h; cases h
  rw [if_pos hl] at h
  obtain ⟨e, he, h⟩ := Option.bind_eq_some_iff.1 h
  have hw1 : Below w.heap.size w (w.alloc (.cells #[.slice A0 l0.length c0, .slice A1 l1.length c1] 22)) := below_alloc (Below.refl _ _) _
  have hc0 := (Kd.V_at hs0).2.1
  have hc1 := (Kd.V_at hs1).2.1
  have HC := Aside0.mk (Concat_calls P0_ P1_ A0 A1 c0 c1 l0 l1 w.heap.size (w.alloc (.cells #[.slice A0 l0.length c0, .slice A1 l1.length c1] 22)) (Kd.F_below (Kd.V_F hs0) hw1) hc0 (Kd.F_below (Kd.V_F hs1) hw1) hc1 hl (by simp) (by simp))
  have HS0 := Aside0.mk (Kd.F_now (Kd.V_F hs0))
  have HS1 := Aside0.mk (Kd.F_now (Kd.V_F hs1))
  have HE := Aside0.mk he
  have HW := Aside0.mk hw1
  have HH := Aside0.mk h
  clear hs0 hs1 he hw1 h hl
  go_enter Try.func18, Try.ntmps18
  go_wp2_with fail
  refine HC.out.mono ?_
  rintro e1 w1 ⟨vc, rfl, hN, hb⟩
  obtain ⟨Ac, cc, rfl⟩ := Kd.N_slice hN
  have HN := Aside0.mk (Kd.N_mono (Kd.N_lower hN HW.out.size) (ok' := fun k_ => (P0_ k_ ∨ P1_ k_) ∨ w.heap.size ≤ k_) (fun k_ hk => Or.imp_right (fun h => Nat.le_trans HW.out.size h) hk))
  have HB := Aside0.mk (below_then HW.out HW.out.size hb)
  clear hN hb HC
  go_wp2_with fail
  refine (choose_Check.calls k A0 c0 l0 e w1 (Kd.C_below HS0.out HB.out) hc0 HE.out).mono ?_
  rintro e2 w2 ⟨rfl, hb2⟩
  have HN2 := Aside0.mk (Kd.N_below HN.out hb2)
  have HB2 := Aside0.mk (below_then HB.out HB.out.size hb2)
  by_cases h0 : e = 0
  · subst h0
    have h := HH.out
    rw [if_pos rfl] at h
    obtain ⟨e', he', h⟩ := Option.bind_eq_some_iff.1 h
    have HE' := Aside0.mk he'
    have HH' := Aside0.mk h
    clear HH h he' HE
    go_wp2_with fail
    refine (choose_Check.calls k A1 c1 l1 e' w2 (Kd.C_below (Kd.C_below HS1.out HB.out) hb2) hc1 HE'.out).mono ?_
    rintro e3 w3 ⟨rfl, hb3⟩
    have HN3 := Aside0.mk (Kd.N_below HN2.out hb3)
    have HB3 := Aside0.mk (below_then HB2.out HB2.out.size hb3)
    clear hb3 HN HB HN2 HB2 hb2
    by_cases h1 : e' = 0
    · subst h1
      have h := HH'.out
      rw [if_pos rfl] at h
      by_cases h8 : ((l0 ++ l1).length : Int) > 8
      · rw [if_pos h8] at h
        obtain ⟨rfl, rfl⟩ := Prod.mk.inj (Option.some.inj h)
        have d8 : decide ((8 : Int) < ((l0 ++ l1).length : Int)) = true := decide_eq_true h8
        have d9 : decide (8 < (l0 ++ l1).length) = true := decide_eq_true (by omega)
        clear h h8 HH'
        rw [List.length_append] at d8 d9
        rw [Int.natCast_add] at d8
        go_wp2
        go_ret2
        exact ⟨_, rfl, Kd.N_nil _ _ _ _ _, HB3.out⟩
      · rw [if_neg h8] at h
        obtain ⟨rfl, rfl⟩ := Prod.mk.inj (Option.some.inj h)
        have d8 : decide ((8 : Int) < ((l0 ++ l1).length : Int)) = false := decide_eq_false h8
        have d9 : decide (8 < (l0 ++ l1).length) = false := decide_eq_false (by omega)
        clear h h8 HH'
        rw [List.length_append] at d8 d9
        rw [Int.natCast_add] at d8
        go_wp2
        go_ret2
        exact ⟨_, rfl, by have h := HN3.out; rw [List.length_append] at h; exact h, HB3.out⟩
    · have h := HH'.out
      rw [if_neg h1] at h
      obtain ⟨rfl, rfl⟩ := Prod.mk.inj (Option.some.inj h)
      have d0 : (e' == 0) = false := beq_eq_false_iff_ne.2 h1
      have d1 : (e' != 0) = true := by simp [h1]
      have d2 : decide (e' = 0) = false := decide_eq_false h1
      clear h HH'
      go_wp2
      go_ret2
      exact ⟨_, rfl, Kd.N_nil _ _ _ _ _, HB3.out⟩
  · have h := HH.out
    rw [if_neg h0] at h
    obtain ⟨rfl, rfl⟩ := Prod.mk.inj (Option.some.inj h)
    have d0 : (e == 0) = false := beq_eq_false_iff_ne.2 h0
    have d1 : (e != 0) = true := by simp [h0]
    have d2 : decide (e = 0) = false := decide_eq_false h0
    clear h HH hb2 HN HB
    go_wp2
    go_ret2
    exact ⟨_, rfl, Kd.N_nil _ _ _ _ _, HB2.out⟩

/-! ### samphirelaw19_awake: function 11 -/
def samphirelaw19_awake.f (k : Nat)  : Option (Bool) := (some (([(⟨2, (⟨#[98]⟩ : ByteArray), (⟨#[100]⟩ : ByteArray), ([] : List ByteArray)⟩ : S42), (⟨4, (⟨#[]⟩ : ByteArray), (⟨#[]⟩ : ByteArray), (([(⟨#[99]⟩ : ByteArray)] : List ByteArray))⟩ : S42)] : List (S42)) : List (S42))).bind fun y146 => ((choose_Keys.f k y146 (([(⟨#[97]⟩ : ByteArray), (⟨#[98]⟩ : ByteArray), (⟨#[99]⟩ : ByteArray), (⟨#[100]⟩ : ByteArray), (⟨#[98, 97]⟩ : ByteArray)] : List ByteArray))).bind fun t152 => ((choose_Both.f k y146 (([(⟨1, (⟨#[98, 97]⟩ : ByteArray), (⟨#[]⟩ : ByteArray), ([] : List ByteArray)⟩ : S42)] : List (S42)))).bind fun bt158 => ((samphireref16_Strings.f k t152 (([(⟨#[98]⟩ : ByteArray), (⟨#[98, 97]⟩ : ByteArray)] : List ByteArray))).bind fun t165 => (if t165 = true then ((choose_Meant.f k ([] : List (S42)) (⟨#[120]⟩ : ByteArray)).bind fun t166 => (if t166 = true then ((choose_Check.f k y146).bind fun t167 => (if t167 = 0 then ((choose_Check.f k (([(⟨0, (⟨#[]⟩ : ByteArray), (⟨#[]⟩ : ByteArray), ([] : List ByteArray)⟩ : S42)] : List (S42)))).bind fun t171 => (if t171 = 1 then (if (bt158.1.length : Int) = 3 then (if bt158.2 = 0 then (some true) else (some false)) else (some false)) else (some false))) else (some false))) else (some false))) else (some false)))))
theorem samphirelaw19_awake.mono : ∀ k, LeO (samphirelaw19_awake.f k ) (samphirelaw19_awake.f (k + 1) ) := by
  intro  k
  unfold samphirelaw19_awake.f
  repeat' first
      | (with_reducible exact choose_Both.mono _ _ _)
      | (with_reducible exact choose_Check.mono _ _)
      | (with_reducible exact choose_Keys.mono _ _ _)
      | (with_reducible exact choose_Meant.mono _ _ _)
      | (with_reducible exact samphireref16_Strings.mono _ _ _)
      | (with_reducible exact LeO.refl _)
      | (with_reducible exact LeO.none _)
      | (with_reducible refine LeO.ite ?_ ?_)
      | (with_reducible refine LeO.bind ?_ (fun _ => ?_))
      | exact choose_Both.mono _ _ _
      | exact choose_Check.mono _ _
      | exact choose_Keys.mono _ _ _
      | exact choose_Meant.mono _ _ _
      | exact samphireref16_Strings.mono _ _ _
      | exact LeO.none _
      | refine LeO.ite ?_ ?_
      | refine LeO.bind ?_ (fun _ => ?_)
set_option maxHeartbeats 8000000 in
set_option maxRecDepth 100000 in
theorem samphirelaw19_awake.calls (k : Nat)  (r : Bool) (hrT : Aside0 (r = true)) (w : World) (h : samphirelaw19_awake.f k  = some r) :
    Calls Try.prog 11 #[] w fun e w' => e = .returned (.bool r) ∧ Below w.heap.size w w' := by
  have hu42 := Try.underlying42
  have HB := Aside0.mk (Below.refl w.heap.size w)
  have H : ((some (([(⟨2, (⟨#[98]⟩ : ByteArray), (⟨#[100]⟩ : ByteArray), ([] : List ByteArray)⟩ : S42), (⟨4, (⟨#[]⟩ : ByteArray), (⟨#[]⟩ : ByteArray), (([(⟨#[99]⟩ : ByteArray)] : List ByteArray))⟩ : S42)] : List (S42)) : List (S42))).bind fun y146 => ((choose_Keys.f k y146 (([(⟨#[97]⟩ : ByteArray), (⟨#[98]⟩ : ByteArray), (⟨#[99]⟩ : ByteArray), (⟨#[100]⟩ : ByteArray), (⟨#[98, 97]⟩ : ByteArray)] : List ByteArray))).bind fun t152 => ((choose_Both.f k y146 (([(⟨1, (⟨#[98, 97]⟩ : ByteArray), (⟨#[]⟩ : ByteArray), ([] : List ByteArray)⟩ : S42)] : List (S42)))).bind fun bt158 => ((samphireref16_Strings.f k t152 (([(⟨#[98]⟩ : ByteArray), (⟨#[98, 97]⟩ : ByteArray)] : List ByteArray))).bind fun t165 => (if t165 = true then ((choose_Meant.f k ([] : List (S42)) (⟨#[120]⟩ : ByteArray)).bind fun t166 => (if t166 = true then ((choose_Check.f k y146).bind fun t167 => (if t167 = 0 then ((choose_Check.f k (([(⟨0, (⟨#[]⟩ : ByteArray), (⟨#[]⟩ : ByteArray), ([] : List ByteArray)⟩ : S42)] : List (S42)))).bind fun t171 => (if t171 = 1 then (if (bt158.1.length : Int) = 3 then (if bt158.2 = 0 then (some true) else (some false)) else (some false)) else (some false))) else (some false))) else (some false))) else (some false)))))) = some r := h
  clear h
  obtain ⟨y143, hy143⟩ : ∃ y_ : List ByteArray, y_ = (([(⟨#[99]⟩ : ByteArray)] : List ByteArray)) := ⟨_, rfl⟩
  replace H : ((some (([(⟨2, (⟨#[98]⟩ : ByteArray), (⟨#[100]⟩ : ByteArray), ([] : List ByteArray)⟩ : S42), (⟨4, (⟨#[]⟩ : ByteArray), (⟨#[]⟩ : ByteArray), y143⟩ : S42)] : List (S42)) : List (S42))).bind fun y146 => ((choose_Keys.f k y146 (([(⟨#[97]⟩ : ByteArray), (⟨#[98]⟩ : ByteArray), (⟨#[99]⟩ : ByteArray), (⟨#[100]⟩ : ByteArray), (⟨#[98, 97]⟩ : ByteArray)] : List ByteArray))).bind fun t152 => ((choose_Both.f k y146 (([(⟨1, (⟨#[98, 97]⟩ : ByteArray), (⟨#[]⟩ : ByteArray), ([] : List ByteArray)⟩ : S42)] : List (S42)))).bind fun bt158 => ((samphireref16_Strings.f k t152 (([(⟨#[98]⟩ : ByteArray), (⟨#[98, 97]⟩ : ByteArray)] : List ByteArray))).bind fun t165 => (if t165 = true then ((choose_Meant.f k ([] : List (S42)) (⟨#[120]⟩ : ByteArray)).bind fun t166 => (if t166 = true then ((choose_Check.f k y146).bind fun t167 => (if t167 = 0 then ((choose_Check.f k (([(⟨0, (⟨#[]⟩ : ByteArray), (⟨#[]⟩ : ByteArray), ([] : List ByteArray)⟩ : S42)] : List (S42)))).bind fun t171 => (if t171 = 1 then (if (bt158.1.length : Int) = 3 then (if bt158.2 = 0 then (some true) else (some false)) else (some false)) else (some false))) else (some false))) else (some false))) else (some false)))))) = some r := by first | (rw [hy143]; with_reducible exact H) | (have H2_ := (Option.bind_some _ _).symm.trans H; rw [hy143]; with_reducible exact H2_) | (have H2_ := (Option.bind_some _ _).symm.trans H; with_reducible exact H2_) | with_reducible exact H | (rw [hy143]; exact H) | exact H
  have Ny143 := Aside0.mk hy143
  clear hy143
  obtain ⟨y146, hy146⟩ : ∃ y_ : List (S42), y_ = (([(⟨2, (⟨#[98]⟩ : ByteArray), (⟨#[100]⟩ : ByteArray), ([] : List ByteArray)⟩ : S42), (⟨4, (⟨#[]⟩ : ByteArray), (⟨#[]⟩ : ByteArray), y143⟩ : S42)] : List (S42))) := ⟨_, rfl⟩
  replace H : ((choose_Keys.f k y146 (([(⟨#[97]⟩ : ByteArray), (⟨#[98]⟩ : ByteArray), (⟨#[99]⟩ : ByteArray), (⟨#[100]⟩ : ByteArray), (⟨#[98, 97]⟩ : ByteArray)] : List ByteArray))).bind fun t152 => ((choose_Both.f k y146 (([(⟨1, (⟨#[98, 97]⟩ : ByteArray), (⟨#[]⟩ : ByteArray), ([] : List ByteArray)⟩ : S42)] : List (S42)))).bind fun bt158 => ((samphireref16_Strings.f k t152 (([(⟨#[98]⟩ : ByteArray), (⟨#[98, 97]⟩ : ByteArray)] : List ByteArray))).bind fun t165 => (if t165 = true then ((choose_Meant.f k ([] : List (S42)) (⟨#[120]⟩ : ByteArray)).bind fun t166 => (if t166 = true then ((choose_Check.f k y146).bind fun t167 => (if t167 = 0 then ((choose_Check.f k (([(⟨0, (⟨#[]⟩ : ByteArray), (⟨#[]⟩ : ByteArray), ([] : List ByteArray)⟩ : S42)] : List (S42)))).bind fun t171 => (if t171 = 1 then (if (bt158.1.length : Int) = 3 then (if bt158.2 = 0 then (some true) else (some false)) else (some false)) else (some false))) else (some false))) else (some false))) else (some false))))) = some r := by first | (rw [hy146]; with_reducible exact H) | (have H2_ := (Option.bind_some _ _).symm.trans H; rw [hy146]; with_reducible exact H2_) | (have H2_ := (Option.bind_some _ _).symm.trans H; with_reducible exact H2_) | with_reducible exact H | (rw [hy146]; exact H) | exact H
  have Ny146 := Aside0.mk hy146
  clear hy146
  obtain ⟨y149, hy149⟩ : ∃ y_ : List ByteArray, y_ = (([(⟨#[97]⟩ : ByteArray), (⟨#[98]⟩ : ByteArray), (⟨#[99]⟩ : ByteArray), (⟨#[100]⟩ : ByteArray), (⟨#[98, 97]⟩ : ByteArray)] : List ByteArray)) := ⟨_, rfl⟩
  replace H : ((choose_Keys.f k y146 y149).bind fun t152 => ((choose_Both.f k y146 (([(⟨1, (⟨#[98, 97]⟩ : ByteArray), (⟨#[]⟩ : ByteArray), ([] : List ByteArray)⟩ : S42)] : List (S42)))).bind fun bt158 => ((samphireref16_Strings.f k t152 (([(⟨#[98]⟩ : ByteArray), (⟨#[98, 97]⟩ : ByteArray)] : List ByteArray))).bind fun t165 => (if t165 = true then ((choose_Meant.f k ([] : List (S42)) (⟨#[120]⟩ : ByteArray)).bind fun t166 => (if t166 = true then ((choose_Check.f k y146).bind fun t167 => (if t167 = 0 then ((choose_Check.f k (([(⟨0, (⟨#[]⟩ : ByteArray), (⟨#[]⟩ : ByteArray), ([] : List ByteArray)⟩ : S42)] : List (S42)))).bind fun t171 => (if t171 = 1 then (if (bt158.1.length : Int) = 3 then (if bt158.2 = 0 then (some true) else (some false)) else (some false)) else (some false))) else (some false))) else (some false))) else (some false))))) = some r := by first | (rw [hy149]; with_reducible exact H) | (have H2_ := (Option.bind_some _ _).symm.trans H; rw [hy149]; with_reducible exact H2_) | (have H2_ := (Option.bind_some _ _).symm.trans H; with_reducible exact H2_) | with_reducible exact H | (rw [hy149]; exact H) | exact H
  have Ny149 := Aside0.mk hy149
  clear hy149
  replace H := Option.bind_eq_some_iff.mp H
  obtain ⟨t152, A10, H⟩ := H
  replace H : ((choose_Both.f k y146 (([(⟨1, (⟨#[98, 97]⟩ : ByteArray), (⟨#[]⟩ : ByteArray), ([] : List ByteArray)⟩ : S42)] : List (S42)))).bind fun bt158 => ((samphireref16_Strings.f k t152 (([(⟨#[98]⟩ : ByteArray), (⟨#[98, 97]⟩ : ByteArray)] : List ByteArray))).bind fun t165 => (if t165 = true then ((choose_Meant.f k ([] : List (S42)) (⟨#[120]⟩ : ByteArray)).bind fun t166 => (if t166 = true then ((choose_Check.f k y146).bind fun t167 => (if t167 = 0 then ((choose_Check.f k (([(⟨0, (⟨#[]⟩ : ByteArray), (⟨#[]⟩ : ByteArray), ([] : List ByteArray)⟩ : S42)] : List (S42)))).bind fun t171 => (if t171 = 1 then (if (bt158.1.length : Int) = 3 then (if bt158.2 = 0 then (some true) else (some false)) else (some false)) else (some false))) else (some false))) else (some false))) else (some false)))) = some r := H
  have A1 := Aside0.mk A10
  clear A10
  obtain ⟨y155, hy155⟩ : ∃ y_ : List (S42), y_ = (([(⟨1, (⟨#[98, 97]⟩ : ByteArray), (⟨#[]⟩ : ByteArray), ([] : List ByteArray)⟩ : S42)] : List (S42))) := ⟨_, rfl⟩
  replace H : ((choose_Both.f k y146 y155).bind fun bt158 => ((samphireref16_Strings.f k t152 (([(⟨#[98]⟩ : ByteArray), (⟨#[98, 97]⟩ : ByteArray)] : List ByteArray))).bind fun t165 => (if t165 = true then ((choose_Meant.f k ([] : List (S42)) (⟨#[120]⟩ : ByteArray)).bind fun t166 => (if t166 = true then ((choose_Check.f k y146).bind fun t167 => (if t167 = 0 then ((choose_Check.f k (([(⟨0, (⟨#[]⟩ : ByteArray), (⟨#[]⟩ : ByteArray), ([] : List ByteArray)⟩ : S42)] : List (S42)))).bind fun t171 => (if t171 = 1 then (if (bt158.1.length : Int) = 3 then (if bt158.2 = 0 then (some true) else (some false)) else (some false)) else (some false))) else (some false))) else (some false))) else (some false)))) = some r := by first | (rw [hy155]; with_reducible exact H) | (have H2_ := (Option.bind_some _ _).symm.trans H; rw [hy155]; with_reducible exact H2_) | (have H2_ := (Option.bind_some _ _).symm.trans H; with_reducible exact H2_) | with_reducible exact H | (rw [hy155]; exact H) | exact H
  have Ny155 := Aside0.mk hy155
  clear hy155
  replace H := Option.bind_eq_some_iff.mp H
  obtain ⟨⟨t158, t161⟩, A20, H⟩ := H
  replace H : ((samphireref16_Strings.f k t152 (([(⟨#[98]⟩ : ByteArray), (⟨#[98, 97]⟩ : ByteArray)] : List ByteArray))).bind fun t165 => (if t165 = true then ((choose_Meant.f k ([] : List (S42)) (⟨#[120]⟩ : ByteArray)).bind fun t166 => (if t166 = true then ((choose_Check.f k y146).bind fun t167 => (if t167 = 0 then ((choose_Check.f k (([(⟨0, (⟨#[]⟩ : ByteArray), (⟨#[]⟩ : ByteArray), ([] : List ByteArray)⟩ : S42)] : List (S42)))).bind fun t171 => (if t171 = 1 then (if (t158.length : Int) = 3 then (if t161 = 0 then (some true) else (some false)) else (some false)) else (some false))) else (some false))) else (some false))) else (some false))) = some r := H
  have A2 := Aside0.mk A20
  clear A20
  obtain ⟨y162, hy162⟩ : ∃ y_ : List ByteArray, y_ = (([(⟨#[98]⟩ : ByteArray), (⟨#[98, 97]⟩ : ByteArray)] : List ByteArray)) := ⟨_, rfl⟩
  replace H : ((samphireref16_Strings.f k t152 y162).bind fun t165 => (if t165 = true then ((choose_Meant.f k ([] : List (S42)) (⟨#[120]⟩ : ByteArray)).bind fun t166 => (if t166 = true then ((choose_Check.f k y146).bind fun t167 => (if t167 = 0 then ((choose_Check.f k (([(⟨0, (⟨#[]⟩ : ByteArray), (⟨#[]⟩ : ByteArray), ([] : List ByteArray)⟩ : S42)] : List (S42)))).bind fun t171 => (if t171 = 1 then (if (t158.length : Int) = 3 then (if t161 = 0 then (some true) else (some false)) else (some false)) else (some false))) else (some false))) else (some false))) else (some false))) = some r := by first | (rw [hy162]; with_reducible exact H) | (have H2_ := (Option.bind_some _ _).symm.trans H; rw [hy162]; with_reducible exact H2_) | (have H2_ := (Option.bind_some _ _).symm.trans H; with_reducible exact H2_) | with_reducible exact H | (rw [hy162]; exact H) | exact H
  have Ny162 := Aside0.mk hy162
  clear hy162
  replace H := Option.bind_eq_some_iff.mp H
  obtain ⟨t165, A30, H⟩ := H
  replace H : (if t165 = true then ((choose_Meant.f k ([] : List (S42)) (⟨#[120]⟩ : ByteArray)).bind fun t166 => (if t166 = true then ((choose_Check.f k y146).bind fun t167 => (if t167 = 0 then ((choose_Check.f k (([(⟨0, (⟨#[]⟩ : ByteArray), (⟨#[]⟩ : ByteArray), ([] : List ByteArray)⟩ : S42)] : List (S42)))).bind fun t171 => (if t171 = 1 then (if (t158.length : Int) = 3 then (if t161 = 0 then (some true) else (some false)) else (some false)) else (some false))) else (some false))) else (some false))) else (some false)) = some r := H
  have A3 := Aside0.mk A30
  clear A30
  by_cases c4 : t165 = true
  · subst c4
    have H1 : ((choose_Meant.f k ([] : List (S42)) (⟨#[120]⟩ : ByteArray)).bind fun t166 => (if t166 = true then ((choose_Check.f k y146).bind fun t167 => (if t167 = 0 then ((choose_Check.f k (([(⟨0, (⟨#[]⟩ : ByteArray), (⟨#[]⟩ : ByteArray), ([] : List ByteArray)⟩ : S42)] : List (S42)))).bind fun t171 => (if t171 = 1 then (if (t158.length : Int) = 3 then (if t161 = 0 then (some true) else (some false)) else (some false)) else (some false))) else (some false))) else (some false))) = some r := by rw [if_pos rfl] at H; exact H
    clear H
    have H := H1
    clear H1
    replace H := Option.bind_eq_some_iff.mp H
    obtain ⟨t166, A50, H⟩ := H
    replace H : (if t166 = true then ((choose_Check.f k y146).bind fun t167 => (if t167 = 0 then ((choose_Check.f k (([(⟨0, (⟨#[]⟩ : ByteArray), (⟨#[]⟩ : ByteArray), ([] : List ByteArray)⟩ : S42)] : List (S42)))).bind fun t171 => (if t171 = 1 then (if (t158.length : Int) = 3 then (if t161 = 0 then (some true) else (some false)) else (some false)) else (some false))) else (some false))) else (some false)) = some r := H
    have A5 := Aside0.mk A50
    clear A50
    by_cases c6 : t166 = true
    · subst c6
      have H1 : ((choose_Check.f k y146).bind fun t167 => (if t167 = 0 then ((choose_Check.f k (([(⟨0, (⟨#[]⟩ : ByteArray), (⟨#[]⟩ : ByteArray), ([] : List ByteArray)⟩ : S42)] : List (S42)))).bind fun t171 => (if t171 = 1 then (if (t158.length : Int) = 3 then (if t161 = 0 then (some true) else (some false)) else (some false)) else (some false))) else (some false))) = some r := by rw [if_pos rfl] at H; exact H
      clear H
      have H := H1
      clear H1
      replace H := Option.bind_eq_some_iff.mp H
      obtain ⟨t167, A70, H⟩ := H
      replace H : (if t167 = 0 then ((choose_Check.f k (([(⟨0, (⟨#[]⟩ : ByteArray), (⟨#[]⟩ : ByteArray), ([] : List ByteArray)⟩ : S42)] : List (S42)))).bind fun t171 => (if t171 = 1 then (if (t158.length : Int) = 3 then (if t161 = 0 then (some true) else (some false)) else (some false)) else (some false))) else (some false)) = some r := H
      have A7 := Aside0.mk A70
      clear A70
      by_cases c8 : t167 = 0
      · rw [if_pos c8] at H
        have c8b0 : (t167 == 0) = true := beq_iff_eq.mpr c8
        have c8b1 : (t167 != 0) = false := bne_eq_false_iff_eq.mpr c8
        clear c8
        obtain ⟨y168, hy168⟩ : ∃ y_ : List (S42), y_ = (([(⟨0, (⟨#[]⟩ : ByteArray), (⟨#[]⟩ : ByteArray), ([] : List ByteArray)⟩ : S42)] : List (S42))) := ⟨_, rfl⟩
        replace H : ((choose_Check.f k y168).bind fun t171 => (if t171 = 1 then (if (t158.length : Int) = 3 then (if t161 = 0 then (some true) else (some false)) else (some false)) else (some false))) = some r := by first | (rw [hy168]; with_reducible exact H) | (have H2_ := (Option.bind_some _ _).symm.trans H; rw [hy168]; with_reducible exact H2_) | (have H2_ := (Option.bind_some _ _).symm.trans H; with_reducible exact H2_) | with_reducible exact H | (rw [hy168]; exact H) | exact H
        have Ny168 := Aside0.mk hy168
        clear hy168
        replace H := Option.bind_eq_some_iff.mp H
        obtain ⟨t171, A90, H⟩ := H
        replace H : (if t171 = 1 then (if (t158.length : Int) = 3 then (if t161 = 0 then (some true) else (some false)) else (some false)) else (some false)) = some r := H
        have A9 := Aside0.mk A90
        clear A90
        by_cases c10 : t171 = 1
        · rw [if_pos c10] at H
          have c10b0 : (t171 == 1) = true := beq_iff_eq.mpr c10
          have c10b1 : (t171 != 1) = false := bne_eq_false_iff_eq.mpr c10
          clear c10
          by_cases c11 : (t158.length : Int) = 3
          · rw [if_pos c11] at H
            have c11b0 : ((t158.length : Int) == 3) = true := beq_iff_eq.mpr c11
            have c11b1 : ((t158.length : Int) != 3) = false := bne_eq_false_iff_eq.mpr c11
            clear c11
            by_cases c12 : t161 = 0
            · rw [if_pos c12] at H
              have c12b0 : (t161 == 0) = true := beq_iff_eq.mpr c12
              have c12b1 : (t161 != 0) = false := bne_eq_false_iff_eq.mpr c12
              clear c12
              obtain rfl := Option.some.inj H
              go_enter Try.func11, Try.ntmps11
              go_wp2_with (first | ((with_reducible refine gate_dst (N := 6) rfl ?_); (try (refine gate_guard (by rfl) ?_; dsimp only)); refine Kd.R_lit Kd.string _ 9 ?hg (N := 6) ?hd (xs := ([(⟨#[99]⟩ : ByteArray)] : List ByteArray)) (inner := [.string (⟨#[99]⟩ : ByteArray)]) (ok := fun _ => True) (okp := fun _ => True) ?hr ?hp (fun _ hk => hk) trivial (Below.refl _ _) (Nat.le_refl _) (by simp) ?_; (case hd => rfl); (case hg => rfl); (case hr => first | (go_simp; done) | (go_simp; rfl)); (case hp => exact (Reps.one (show Kd.M Kd.string _ _ _ (⟨#[99]⟩ : ByteArray) [.string (⟨#[99]⟩ : ByteArray)] from rfl) (Reps.none _ _))); intro v144 w13 ho14 hb hg_ hnew_; clear hg_ hnew_; (first | rw [← Ny143.out] at ho14 | (simp only [Int.reduceToNat] at ho14; rw [← Ny143.out] at ho14)); have n0_ := Aside0.mk (Kd.R_lower ho14 (below_size (by repeat (first | (with_reducible first | exact HB.out | apply below_alloc | apply pw_below_drewN | apply below_drew1) | exact HB.out)))); have n1_ := Aside0.mk (below_step (by repeat (first | (with_reducible first | exact HB.out | apply below_alloc | apply pw_below_drewN | apply below_drew1) | exact HB.out)) hb); clear HB; have HO145 := n0_; have HB := n1_; clear n0_ n1_; clear hb ho14; obtain ⟨Ao15, co15, eo15⟩ := Kd.R_slice HO145.out; subst eo15) | ((with_reducible refine gate_dst (N := 8) rfl ?_); (try (refine gate_guard (by rfl) ?_; dsimp only)); refine Kd.N_lit k42 _ 42 ?hg (N' := 8) ?hd (xs := ([(⟨2, (⟨#[98]⟩ : ByteArray), (⟨#[100]⟩ : ByteArray), ([] : List ByteArray)⟩ : S42), (⟨4, (⟨#[]⟩ : ByteArray), (⟨#[]⟩ : ByteArray), y143⟩ : S42)] : List (S42))) (inner := [.int .i64 2, .string (⟨#[98]⟩ : ByteArray), .string (⟨#[100]⟩ : ByteArray), .slice none 0 0, .int .i64 4, .string (⟨#[]⟩ : ByteArray), .string (⟨#[]⟩ : ByteArray), .slice Ao15 y143.length co15]) (ok := (fun _ => True)) (okp := (fun _ => True)) ?hr ?hp (fun _ hk => hk) ((show ∀ k_, w13.heap.size ≤ k_ → (fun _ => True) k_ from fun k_ hk => trivial) _ (Nat.le_refl _)) (Below.refl _ _) (Nat.le_refl _) (by simp) ?_; (case hd => rfl); (case hg => rfl); (case hr => first | (go_simp; done) | (go_simp; rfl)); (case hp => exact (Reps.c4 (show Kd.FK k42 _ _ (⟨2, (⟨#[98]⟩ : ByteArray), (⟨#[100]⟩ : ByteArray), ([] : List ByteArray)⟩ : S42) [.int .i64 2, .string (⟨#[98]⟩ : ByteArray), .string (⟨#[100]⟩ : ByteArray), .slice none 0 0] from (k42_mkF _ _ (⟨2, (⟨#[98]⟩ : ByteArray), (⟨#[100]⟩ : ByteArray), ([] : List ByteArray)⟩ : S42) (Nat.le_refl _) (Kd.F_nil _ _ _))) (Reps.c4 (show Kd.FK k42 _ _ (⟨4, (⟨#[]⟩ : ByteArray), (⟨#[]⟩ : ByteArray), y143⟩ : S42) [.int .i64 4, .string (⟨#[]⟩ : ByteArray), .string (⟨#[]⟩ : ByteArray), .slice Ao15 y143.length co15] from (k42_mkF _ _ (⟨4, (⟨#[]⟩ : ByteArray), (⟨#[]⟩ : ByteArray), y143⟩ : S42) (Kd.R_reads' (Kd.R_mono (ok' := (fun _ => True)) (HO145.out) (fun k_ hk => trivial))).2.1 (Kd.R_F (Kd.R_mono (ok' := (fun _ => True)) (HO145.out) (fun k_ hk => trivial))))) (Reps.none _ _)))); intro v147 w16 ho17 hb hg_ hnew_; clear hg_ hnew_; (first | rw [← Ny146.out] at ho17 | (simp only [Int.reduceToNat] at ho17; rw [← Ny146.out] at ho17)); have n0_ := Aside0.mk (Kd.N_lower ho17 (below_size (by repeat (first | (with_reducible first | exact HB.out | apply below_alloc | apply pw_below_drewN | apply below_drew1) | exact HB.out)))); have n1_ := Aside0.mk (below_step (by repeat (first | (with_reducible first | exact HB.out | apply below_alloc | apply pw_below_drewN | apply below_drew1) | exact HB.out)) hb); clear HB; clear HO145; have HO148 := n0_; have HB := n1_; clear n0_ n1_; clear hb ho17) | ((with_reducible refine gate_dst (N := 10) rfl ?_); (try (refine gate_guard (by rfl) ?_; dsimp only)); refine Kd.R_lit Kd.string _ 9 ?hg (N := 10) ?hd (xs := ([(⟨#[97]⟩ : ByteArray), (⟨#[98]⟩ : ByteArray), (⟨#[99]⟩ : ByteArray), (⟨#[100]⟩ : ByteArray), (⟨#[98, 97]⟩ : ByteArray)] : List ByteArray)) (inner := [.string (⟨#[97]⟩ : ByteArray), .string (⟨#[98]⟩ : ByteArray), .string (⟨#[99]⟩ : ByteArray), .string (⟨#[100]⟩ : ByteArray), .string (⟨#[98, 97]⟩ : ByteArray)]) (ok := fun _ => True) (okp := fun _ => True) ?hr ?hp (fun _ hk => hk) trivial (Below.refl _ _) (Nat.le_refl _) (by simp) ?_; (case hd => rfl); (case hg => rfl); (case hr => first | (go_simp; done) | (go_simp; rfl)); (case hp => exact (Reps.one (show Kd.M Kd.string _ _ _ (⟨#[97]⟩ : ByteArray) [.string (⟨#[97]⟩ : ByteArray)] from rfl) (Reps.one (show Kd.M Kd.string _ _ _ (⟨#[98]⟩ : ByteArray) [.string (⟨#[98]⟩ : ByteArray)] from rfl) (Reps.one (show Kd.M Kd.string _ _ _ (⟨#[99]⟩ : ByteArray) [.string (⟨#[99]⟩ : ByteArray)] from rfl) (Reps.one (show Kd.M Kd.string _ _ _ (⟨#[100]⟩ : ByteArray) [.string (⟨#[100]⟩ : ByteArray)] from rfl) (Reps.one (show Kd.M Kd.string _ _ _ (⟨#[98, 97]⟩ : ByteArray) [.string (⟨#[98, 97]⟩ : ByteArray)] from rfl) (Reps.none _ _))))))); intro v150 w18 ho19 hb hg_ hnew_; clear hg_ hnew_; (first | rw [← Ny149.out] at ho19 | (simp only [Int.reduceToNat] at ho19; rw [← Ny149.out] at ho19)); have n0_ := Aside0.mk (Kd.N_elder' (by (with_reducible repeat (first | apply Kd.N_alloc | apply Kd.N_drewN | apply Kd.N_drew)); exact HO148.out) (Kd.R_base ho19) hb); have n1_ := Aside0.mk (Kd.R_lower ho19 (below_size (by repeat (first | (with_reducible first | exact HB.out | apply below_alloc | apply pw_below_drewN | apply below_drew1) | exact HB.out)))); have n2_ := Aside0.mk (below_step (by repeat (first | (with_reducible first | exact HB.out | apply below_alloc | apply pw_below_drewN | apply below_drew1) | exact HB.out)) hb); clear HO148; clear HB; have HO148 := n0_; have HO151 := n1_; have HB := n2_; clear n0_ n1_ n2_; clear hb ho19; obtain ⟨Ao20, co20, eo20⟩ := Kd.N_slice HO148.out; subst eo20; obtain ⟨Ao21, co21, eo21⟩ := Kd.R_slice HO151.out; subst eo21) | ((with_reducible refine gate_callee (f := 17) rfl ?_); refine goesL_ (some 11) rfl rfl Try.func17 (by kernel_rfl) rfl #[.slice Ao20 y146.length co20, .slice Ao21 y149.length co21] rfl (by (try simp only [List.map_toArray, List.map_cons, List.map_nil]); first | done | rfl | (simp only [List.length_drop, List.length_take]; rfl)) ?_; (with_reducible refine (choose_Keys.calls k _ _ y146 _ _ y149 t152 _ ?side1 ?side2 ?side3 ?side4 A1.out).mono ?_); (case side1 => repeat (first | exact (Kd.N_reads' HO148.out).2.2 | (with_reducible refine Kd.C_alloc ?_ _) | (with_reducible refine Kd.C_drewN ?_ _) | (with_reducible refine Kd.C_drew ?_))); (case side2 => exact (Kd.N_reads' HO148.out).2.1); (case side3 => repeat (first | exact (Kd.R_reads' HO151.out).2.2 | (with_reducible refine Kd.C_alloc ?_ _) | (with_reducible refine Kd.C_drewN ?_ _) | (with_reducible refine Kd.C_drew ?_))); (case side4 => exact (Kd.R_reads' HO151.out).2.1); rintro e w22 ⟨v153, rfl, ho0, hb⟩; refine ⟨_, rfl, ?_⟩; have n0_ := Aside0.mk (Kd.N_elder' (by (with_reducible repeat (first | apply Kd.N_alloc | apply Kd.N_drewN | apply Kd.N_drew)); exact HO148.out) (Kd.R_base ho0) hb); have n1_ := Aside0.mk (Kd.R_elder' (by (with_reducible repeat (first | apply Kd.R_alloc | apply Kd.R_drewN | apply Kd.R_drew)); exact HO151.out) (Kd.R_base ho0) hb); have n2_ := Aside0.mk (Kd.R_lower (Kd.R_new' ho0 (Kd.R_lt (by (with_reducible repeat (first | apply Kd.R_alloc | apply Kd.R_drewN | apply Kd.R_drew)); exact HO151.out))) (below_size (by repeat (first | (with_reducible first | exact HB.out | apply below_alloc | apply pw_below_drewN | apply below_drew1) | exact HB.out)))); have n3_ := Aside0.mk (below_step (by repeat (first | (with_reducible first | exact HB.out | apply below_alloc | apply pw_below_drewN | apply below_drew1) | exact HB.out)) hb); clear HO148; clear HO151; clear HB; have HO148 := n0_; have HO151 := n1_; have HO154 := n2_; have HB := n3_; clear n0_ n1_ n2_ n3_; (try clear hb); (try clear hb2); (try clear hk); (try clear hi); (try clear ho0)) | ((with_reducible refine gate_dst (N := 15) rfl ?_); (try (refine gate_guard (by rfl) ?_; dsimp only)); refine Kd.N_lit k42 _ 42 ?hg (N' := 15) ?hd (xs := ([(⟨1, (⟨#[98, 97]⟩ : ByteArray), (⟨#[]⟩ : ByteArray), ([] : List ByteArray)⟩ : S42)] : List (S42))) (inner := [.int .i64 1, .string (⟨#[98, 97]⟩ : ByteArray), .string (⟨#[]⟩ : ByteArray), .slice none 0 0]) (ok := (fun k_ => some k_ ≠ (.slice Ao20 y146.length co20 : Value).ownBlock ∧ some k_ ≠ (.slice Ao21 y149.length co21 : Value).ownBlock ∧ some k_ ≠ (v153 : Value).ownBlock)) (okp := (fun k_ => some k_ ≠ (.slice Ao20 y146.length co20 : Value).ownBlock ∧ some k_ ≠ (.slice Ao21 y149.length co21 : Value).ownBlock ∧ some k_ ≠ (v153 : Value).ownBlock)) ?hr ?hp (fun _ hk => hk) ((show ∀ k_, w22.heap.size ≤ k_ → (fun k_ => some k_ ≠ (.slice Ao20 y146.length co20 : Value).ownBlock ∧ some k_ ≠ (.slice Ao21 y149.length co21 : Value).ownBlock ∧ some k_ ≠ (v153 : Value).ownBlock) k_ from fun k_ hk => ⟨Kd.fresh' (Kd.N_lt (by (with_reducible repeat (first | apply Kd.N_alloc | apply Kd.N_drewN | apply Kd.N_drew)); exact HO148.out)) k_ hk, Kd.fresh' (Kd.R_lt (by (with_reducible repeat (first | apply Kd.R_alloc | apply Kd.R_drewN | apply Kd.R_drew)); exact HO151.out)) k_ hk, Kd.fresh' (Kd.R_lt (by (with_reducible repeat (first | apply Kd.R_alloc | apply Kd.R_drewN | apply Kd.R_drew)); exact HO154.out)) k_ hk⟩) _ (Nat.le_refl _)) (Below.refl _ _) (Nat.le_refl _) (by simp) ?_; (case hd => rfl); (case hg => rfl); (case hr => first | (go_simp; done) | (go_simp; rfl)); (case hp => exact (Reps.c4 (show Kd.FK k42 _ _ (⟨1, (⟨#[98, 97]⟩ : ByteArray), (⟨#[]⟩ : ByteArray), ([] : List ByteArray)⟩ : S42) [.int .i64 1, .string (⟨#[98, 97]⟩ : ByteArray), .string (⟨#[]⟩ : ByteArray), .slice none 0 0] from (k42_mkF _ _ (⟨1, (⟨#[98, 97]⟩ : ByteArray), (⟨#[]⟩ : ByteArray), ([] : List ByteArray)⟩ : S42) (Nat.le_refl _) (Kd.F_nil _ _ _))) (Reps.none _ _))); intro v156 w23 ho24 hb hg_ hnew_; clear hg_ hnew_; (first | rw [← Ny155.out] at ho24 | (simp only [Int.reduceToNat] at ho24; rw [← Ny155.out] at ho24)); have n0_ := Aside0.mk (Kd.N_elder' (by (with_reducible repeat (first | apply Kd.N_alloc | apply Kd.N_drewN | apply Kd.N_drew)); exact HO148.out) (Kd.N_base ho24) hb); have n1_ := Aside0.mk (Kd.R_below (by (with_reducible repeat (first | apply Kd.R_alloc | apply Kd.R_drewN | apply Kd.R_drew)); exact HO151.out) hb); have n2_ := Aside0.mk (Kd.R_below (by (with_reducible repeat (first | apply Kd.R_alloc | apply Kd.R_drewN | apply Kd.R_drew)); exact HO154.out) hb); have n3_ := Aside0.mk (Kd.N_lower ho24 (below_size (by repeat (first | (with_reducible first | exact HB.out | apply below_alloc | apply pw_below_drewN | apply below_drew1) | exact HB.out)))); have n4_ := Aside0.mk (below_step (by repeat (first | (with_reducible first | exact HB.out | apply below_alloc | apply pw_below_drewN | apply below_drew1) | exact HB.out)) hb); clear HO148; clear HO151; clear HO154; clear HB; have HO148 := n0_; have HO151 := n1_; have HO154 := n2_; have HO157 := n3_; have HB := n4_; clear n0_ n1_ n2_ n3_ n4_; clear hb ho24; obtain ⟨Ao25, co25, eo25⟩ := Kd.N_slice HO157.out; subst eo25) | ((with_reducible refine gate_callee (f := 18) rfl ?_); refine goesL_ (some 16) rfl rfl Try.func18 (by kernel_rfl) rfl #[.slice Ao20 y146.length co20, .slice Ao25 y155.length co25] rfl (by (try simp only [List.map_toArray, List.map_cons, List.map_nil]); first | done | rfl | (simp only [List.length_drop, List.length_take]; rfl)) ?_; (with_reducible refine (choose_Both.calls k (fun k_ => (((True ∧ some k_ ≠ (.slice Ao21 y149.length co21 : Value).ownBlock) ∧ some k_ ≠ (v153 : Value).ownBlock) ∧ some k_ ≠ (.slice Ao25 y155.length co25 : Value).ownBlock)) _ _ y146 (fun k_ => (some k_ ≠ (.slice Ao20 y146.length co20 : Value).ownBlock ∧ (some k_ ≠ (.slice Ao21 y149.length co21 : Value).ownBlock ∧ some k_ ≠ (v153 : Value).ownBlock))) _ _ y155 t158 t161 _ ?side1 ?side2 A2.out).mono ?_); (case side1 => exact Kd.N_V (HO148.out)); (case side2 => exact Kd.N_V (HO157.out)); rintro e w26 ⟨v159, rfl, ho0, hb⟩; refine ⟨_, rfl, ?_⟩; have n0_ := Aside0.mk (Kd.N_elder' (by (with_reducible repeat (first | apply Kd.N_alloc | apply Kd.N_drewN | apply Kd.N_drew)); exact HO148.out) (Kd.N_base ho0) hb); have n1_ := Aside0.mk (Kd.R_below (by (with_reducible repeat (first | apply Kd.R_alloc | apply Kd.R_drewN | apply Kd.R_drew)); exact HO151.out) hb); have n2_ := Aside0.mk (Kd.R_below (by (with_reducible repeat (first | apply Kd.R_alloc | apply Kd.R_drewN | apply Kd.R_drew)); exact HO154.out) hb); have n3_ := Aside0.mk (Kd.N_elder' (by (with_reducible repeat (first | apply Kd.N_alloc | apply Kd.N_drewN | apply Kd.N_drew)); exact HO157.out) (Kd.N_base ho0) hb); have n4_ := Aside0.mk (Kd.N_lower (Kd.N_mono (ok' := fun k_ => some k_ ≠ (.slice Ao21 y149.length co21 : Value).ownBlock ∧ some k_ ≠ (v153 : Value).ownBlock) ho0 (fun k_ hk_ => ⟨Or.elim hk_ (fun hs_ => Or.elim hs_ (fun hs_ => hs_.1.1.2) (fun hs_ => hs_.2.1)) (fun hn_ => (Kd.fresh' (Kd.R_lt (by (with_reducible repeat (first | apply Kd.R_alloc | apply Kd.R_drewN | apply Kd.R_drew)); exact HO151.out)) k_ hn_)), Or.elim hk_ (fun hs_ => Or.elim hs_ (fun hs_ => hs_.1.2) (fun hs_ => hs_.2.2)) (fun hn_ => (Kd.fresh' (Kd.R_lt (by (with_reducible repeat (first | apply Kd.R_alloc | apply Kd.R_drewN | apply Kd.R_drew)); exact HO154.out)) k_ hn_))⟩)) (below_size (by repeat (first | (with_reducible first | exact HB.out | apply below_alloc | apply pw_below_drewN | apply below_drew1) | exact HB.out)))); have n5_ := Aside0.mk (below_step (by repeat (first | (with_reducible first | exact HB.out | apply below_alloc | apply pw_below_drewN | apply below_drew1) | exact HB.out)) hb); clear HO148; clear HO151; clear HO154; clear HO157; clear HB; have HO148 := n0_; have HO151 := n1_; have HO154 := n2_; have HO157 := n3_; have HO160 := n4_; have HB := n5_; clear n0_ n1_ n2_ n3_ n4_ n5_; (try clear hb); (try clear hb2); (try clear hk); (try clear hi); (try clear ho0)) | ((with_reducible refine gate_dst (N := 20) rfl ?_); (try (refine gate_guard (by rfl) ?_; dsimp only)); refine Kd.R_lit Kd.string _ 9 ?hg (N := 20) ?hd (xs := ([(⟨#[98]⟩ : ByteArray), (⟨#[98, 97]⟩ : ByteArray)] : List ByteArray)) (inner := [.string (⟨#[98]⟩ : ByteArray), .string (⟨#[98, 97]⟩ : ByteArray)]) (ok := fun _ => True) (okp := fun _ => True) ?hr ?hp (fun _ hk => hk) trivial (Below.refl _ _) (Nat.le_refl _) (by simp) ?_; (case hd => rfl); (case hg => rfl); (case hr => first | (go_simp; done) | (go_simp; rfl)); (case hp => exact (Reps.one (show Kd.M Kd.string _ _ _ (⟨#[98]⟩ : ByteArray) [.string (⟨#[98]⟩ : ByteArray)] from rfl) (Reps.one (show Kd.M Kd.string _ _ _ (⟨#[98, 97]⟩ : ByteArray) [.string (⟨#[98, 97]⟩ : ByteArray)] from rfl) (Reps.none _ _)))); intro v163 w27 ho28 hb hg_ hnew_; clear hg_ hnew_; (first | rw [← Ny162.out] at ho28 | (simp only [Int.reduceToNat] at ho28; rw [← Ny162.out] at ho28)); have n0_ := Aside0.mk (Kd.N_elder' (by (with_reducible repeat (first | apply Kd.N_alloc | apply Kd.N_drewN | apply Kd.N_drew)); exact HO148.out) (Kd.R_base ho28) hb); have n1_ := Aside0.mk (Kd.R_elder' (by (with_reducible repeat (first | apply Kd.R_alloc | apply Kd.R_drewN | apply Kd.R_drew)); exact HO151.out) (Kd.R_base ho28) hb); have n2_ := Aside0.mk (Kd.R_elder' (by (with_reducible repeat (first | apply Kd.R_alloc | apply Kd.R_drewN | apply Kd.R_drew)); exact HO154.out) (Kd.R_base ho28) hb); have n3_ := Aside0.mk (Kd.N_elder' (by (with_reducible repeat (first | apply Kd.N_alloc | apply Kd.N_drewN | apply Kd.N_drew)); exact HO157.out) (Kd.R_base ho28) hb); have n4_ := Aside0.mk (Kd.N_elder' (by (with_reducible repeat (first | apply Kd.N_alloc | apply Kd.N_drewN | apply Kd.N_drew)); exact HO160.out) (Kd.R_base ho28) hb); have n5_ := Aside0.mk (Kd.R_lower (Kd.R_new' (Kd.R_new' ho28 (Kd.R_lt (by (with_reducible repeat (first | apply Kd.R_alloc | apply Kd.R_drewN | apply Kd.R_drew)); exact HO151.out))) (Kd.R_lt (by (with_reducible repeat (first | apply Kd.R_alloc | apply Kd.R_drewN | apply Kd.R_drew)); exact HO154.out))) (below_size (by repeat (first | (with_reducible first | exact HB.out | apply below_alloc | apply pw_below_drewN | apply below_drew1) | exact HB.out)))); have n6_ := Aside0.mk (below_step (by repeat (first | (with_reducible first | exact HB.out | apply below_alloc | apply pw_below_drewN | apply below_drew1) | exact HB.out)) hb); clear HO148; clear HO151; clear HO154; clear HO157; clear HO160; clear HB; have HO148 := n0_; have HO151 := n1_; have HO154 := n2_; have HO157 := n3_; have HO160 := n4_; have HO164 := n5_; have HB := n6_; clear n0_ n1_ n2_ n3_ n4_ n5_ n6_; clear hb ho28; obtain ⟨Ao29, co29, eo29⟩ := Kd.R_slice HO154.out; subst eo29; obtain ⟨Ao30, co30, eo30⟩ := Kd.R_slice HO164.out; subst eo30) | ((with_reducible refine gate_callee (f := 16) rfl ?_); refine goesL_ (some 21) rfl rfl Try.func16 (by kernel_rfl) rfl #[.slice Ao29 t152.length co29, .slice Ao30 y162.length co30] rfl (by (try simp only [List.map_toArray, List.map_cons, List.map_nil]); first | done | rfl | (simp only [List.length_drop, List.length_take]; rfl)) ?_; (with_reducible refine (samphireref16_Strings.calls k _ _ t152 _ _ y162 true _ ?side1 ?side2 ?side3 ?side4 A3.out).mono ?_); (case side1 => repeat (first | exact (Kd.R_reads' HO154.out).2.2 | (with_reducible refine Kd.C_alloc ?_ _) | (with_reducible refine Kd.C_drewN ?_ _) | (with_reducible refine Kd.C_drew ?_))); (case side2 => exact (Kd.R_reads' HO154.out).2.1); (case side3 => repeat (first | exact (Kd.R_reads' HO164.out).2.2 | (with_reducible refine Kd.C_alloc ?_ _) | (with_reducible refine Kd.C_drewN ?_ _) | (with_reducible refine Kd.C_drew ?_))); (case side4 => exact (Kd.R_reads' HO164.out).2.1); rintro e w' ⟨rfl, ⟨nd, rfl⟩⟩; refine ⟨_, rfl, ?_⟩) | (go_at_call 12; (refine (choose_Meant.calls k _ _ ([] : List (S42)) (⟨#[120]⟩ : ByteArray) true _ ?side1 ?side2 A5.out).mono ?_); (case side1 => exact Kd.C_nil _ _); (case side2 => exact Nat.le_refl _); rintro e w31 ⟨rfl, hb⟩; have n0_ := Aside0.mk (Kd.N_below (by (with_reducible repeat (first | apply Kd.N_alloc | apply Kd.N_drewN | apply Kd.N_drew)); exact HO148.out) hb); have n1_ := Aside0.mk (Kd.R_below (by (with_reducible repeat (first | apply Kd.R_alloc | apply Kd.R_drewN | apply Kd.R_drew)); exact HO151.out) hb); have n2_ := Aside0.mk (Kd.R_below (by (with_reducible repeat (first | apply Kd.R_alloc | apply Kd.R_drewN | apply Kd.R_drew)); exact HO154.out) hb); have n3_ := Aside0.mk (Kd.N_below (by (with_reducible repeat (first | apply Kd.N_alloc | apply Kd.N_drewN | apply Kd.N_drew)); exact HO157.out) hb); have n4_ := Aside0.mk (Kd.N_below (by (with_reducible repeat (first | apply Kd.N_alloc | apply Kd.N_drewN | apply Kd.N_drew)); exact HO160.out) hb); have n5_ := Aside0.mk (Kd.R_below (by (with_reducible repeat (first | apply Kd.R_alloc | apply Kd.R_drewN | apply Kd.R_drew)); exact HO164.out) hb); have n6_ := Aside0.mk (below_step (by repeat (first | (with_reducible first | exact HB.out | apply below_alloc | apply pw_below_drewN | apply below_drew1) | exact HB.out)) hb); clear HO148; clear HO151; clear HO154; clear HO157; clear HO160; clear HO164; clear HB; have HO148 := n0_; have HO151 := n1_; have HO154 := n2_; have HO157 := n3_; have HO160 := n4_; have HO164 := n5_; have HB := n6_; clear n0_ n1_ n2_ n3_ n4_ n5_ n6_; (try clear hb); (try clear hb2); (try clear hk); (try clear hi)) | (go_at_call 14; (with_reducible refine (choose_Check.calls k _ _ y146 t167 _ ?side1 ?side2 A7.out).mono ?_); (case side1 => repeat (first | exact (Kd.N_reads' HO148.out).2.2 | (with_reducible refine Kd.C_alloc ?_ _) | (with_reducible refine Kd.C_drewN ?_ _) | (with_reducible refine Kd.C_drew ?_))); (case side2 => exact (Kd.N_reads' HO148.out).2.1); rintro e w32 ⟨rfl, hb⟩; have n0_ := Aside0.mk (Kd.N_below (by (with_reducible repeat (first | apply Kd.N_alloc | apply Kd.N_drewN | apply Kd.N_drew)); exact HO148.out) hb); have n1_ := Aside0.mk (Kd.R_below (by (with_reducible repeat (first | apply Kd.R_alloc | apply Kd.R_drewN | apply Kd.R_drew)); exact HO151.out) hb); have n2_ := Aside0.mk (Kd.R_below (by (with_reducible repeat (first | apply Kd.R_alloc | apply Kd.R_drewN | apply Kd.R_drew)); exact HO154.out) hb); have n3_ := Aside0.mk (Kd.N_below (by (with_reducible repeat (first | apply Kd.N_alloc | apply Kd.N_drewN | apply Kd.N_drew)); exact HO157.out) hb); have n4_ := Aside0.mk (Kd.N_below (by (with_reducible repeat (first | apply Kd.N_alloc | apply Kd.N_drewN | apply Kd.N_drew)); exact HO160.out) hb); have n5_ := Aside0.mk (Kd.R_below (by (with_reducible repeat (first | apply Kd.R_alloc | apply Kd.R_drewN | apply Kd.R_drew)); exact HO164.out) hb); have n6_ := Aside0.mk (below_step (by repeat (first | (with_reducible first | exact HB.out | apply below_alloc | apply pw_below_drewN | apply below_drew1) | exact HB.out)) hb); clear HO148; clear HO151; clear HO154; clear HO157; clear HO160; clear HO164; clear HB; have HO148 := n0_; have HO151 := n1_; have HO154 := n2_; have HO157 := n3_; have HO160 := n4_; have HO164 := n5_; have HB := n6_; clear n0_ n1_ n2_ n3_ n4_ n5_ n6_; (try clear hb); (try clear hb2); (try clear hk); (try clear hi)) | ((with_reducible refine gate_dst (N := 32) rfl ?_); (try (refine gate_guard (by rfl) ?_; dsimp only)); refine Kd.N_lit k42 _ 42 ?hg (N' := 32) ?hd (xs := ([(⟨0, (⟨#[]⟩ : ByteArray), (⟨#[]⟩ : ByteArray), ([] : List ByteArray)⟩ : S42)] : List (S42))) (inner := [.int .i64 0, .string (⟨#[]⟩ : ByteArray), .string (⟨#[]⟩ : ByteArray), .slice none 0 0]) (ok := (fun k_ => some k_ ≠ (.slice Ao20 y146.length co20 : Value).ownBlock ∧ some k_ ≠ (.slice Ao21 y149.length co21 : Value).ownBlock ∧ some k_ ≠ (.slice Ao29 t152.length co29 : Value).ownBlock ∧ some k_ ≠ (.slice Ao25 y155.length co25 : Value).ownBlock ∧ some k_ ≠ (v159 : Value).ownBlock ∧ some k_ ≠ (.slice Ao30 y162.length co30 : Value).ownBlock)) (okp := (fun k_ => some k_ ≠ (.slice Ao20 y146.length co20 : Value).ownBlock ∧ some k_ ≠ (.slice Ao21 y149.length co21 : Value).ownBlock ∧ some k_ ≠ (.slice Ao29 t152.length co29 : Value).ownBlock ∧ some k_ ≠ (.slice Ao25 y155.length co25 : Value).ownBlock ∧ some k_ ≠ (v159 : Value).ownBlock ∧ some k_ ≠ (.slice Ao30 y162.length co30 : Value).ownBlock)) ?hr ?hp (fun _ hk => hk) ((show ∀ k_, w32.heap.size ≤ k_ → (fun k_ => some k_ ≠ (.slice Ao20 y146.length co20 : Value).ownBlock ∧ some k_ ≠ (.slice Ao21 y149.length co21 : Value).ownBlock ∧ some k_ ≠ (.slice Ao29 t152.length co29 : Value).ownBlock ∧ some k_ ≠ (.slice Ao25 y155.length co25 : Value).ownBlock ∧ some k_ ≠ (v159 : Value).ownBlock ∧ some k_ ≠ (.slice Ao30 y162.length co30 : Value).ownBlock) k_ from fun k_ hk => ⟨Kd.fresh' (Kd.N_lt (by (with_reducible repeat (first | apply Kd.N_alloc | apply Kd.N_drewN | apply Kd.N_drew)); exact HO148.out)) k_ hk, Kd.fresh' (Kd.R_lt (by (with_reducible repeat (first | apply Kd.R_alloc | apply Kd.R_drewN | apply Kd.R_drew)); exact HO151.out)) k_ hk, Kd.fresh' (Kd.R_lt (by (with_reducible repeat (first | apply Kd.R_alloc | apply Kd.R_drewN | apply Kd.R_drew)); exact HO154.out)) k_ hk, Kd.fresh' (Kd.N_lt (by (with_reducible repeat (first | apply Kd.N_alloc | apply Kd.N_drewN | apply Kd.N_drew)); exact HO157.out)) k_ hk, Kd.fresh' (Kd.N_lt (by (with_reducible repeat (first | apply Kd.N_alloc | apply Kd.N_drewN | apply Kd.N_drew)); exact HO160.out)) k_ hk, Kd.fresh' (Kd.R_lt (by (with_reducible repeat (first | apply Kd.R_alloc | apply Kd.R_drewN | apply Kd.R_drew)); exact HO164.out)) k_ hk⟩) _ (Nat.le_refl _)) (Below.refl _ _) (Nat.le_refl _) (by simp) ?_; (case hd => rfl); (case hg => rfl); (case hr => first | (go_simp; done) | (go_simp; rfl)); (case hp => exact (Reps.c4 (show Kd.FK k42 _ _ (⟨0, (⟨#[]⟩ : ByteArray), (⟨#[]⟩ : ByteArray), ([] : List ByteArray)⟩ : S42) [.int .i64 0, .string (⟨#[]⟩ : ByteArray), .string (⟨#[]⟩ : ByteArray), .slice none 0 0] from (k42_mkF _ _ (⟨0, (⟨#[]⟩ : ByteArray), (⟨#[]⟩ : ByteArray), ([] : List ByteArray)⟩ : S42) (Nat.le_refl _) (Kd.F_nil _ _ _))) (Reps.none _ _))); intro v169 w33 ho34 hb hg_ hnew_; clear hg_ hnew_; (first | rw [← Ny168.out] at ho34 | (simp only [Int.reduceToNat] at ho34; rw [← Ny168.out] at ho34)); have n0_ := Aside0.mk (Kd.N_elder' (by (with_reducible repeat (first | apply Kd.N_alloc | apply Kd.N_drewN | apply Kd.N_drew)); exact HO148.out) (Kd.N_base ho34) hb); have n1_ := Aside0.mk (Kd.R_below (by (with_reducible repeat (first | apply Kd.R_alloc | apply Kd.R_drewN | apply Kd.R_drew)); exact HO151.out) hb); have n2_ := Aside0.mk (Kd.R_below (by (with_reducible repeat (first | apply Kd.R_alloc | apply Kd.R_drewN | apply Kd.R_drew)); exact HO154.out) hb); have n3_ := Aside0.mk (Kd.N_elder' (by (with_reducible repeat (first | apply Kd.N_alloc | apply Kd.N_drewN | apply Kd.N_drew)); exact HO157.out) (Kd.N_base ho34) hb); have n4_ := Aside0.mk (Kd.N_elder' (by (with_reducible repeat (first | apply Kd.N_alloc | apply Kd.N_drewN | apply Kd.N_drew)); exact HO160.out) (Kd.N_base ho34) hb); have n5_ := Aside0.mk (Kd.R_below (by (with_reducible repeat (first | apply Kd.R_alloc | apply Kd.R_drewN | apply Kd.R_drew)); exact HO164.out) hb); have n6_ := Aside0.mk (Kd.N_lower ho34 (below_size (by repeat (first | (with_reducible first | exact HB.out | apply below_alloc | apply pw_below_drewN | apply below_drew1) | exact HB.out)))); have n7_ := Aside0.mk (below_step (by repeat (first | (with_reducible first | exact HB.out | apply below_alloc | apply pw_below_drewN | apply below_drew1) | exact HB.out)) hb); clear HO148; clear HO151; clear HO154; clear HO157; clear HO160; clear HO164; clear HB; have HO148 := n0_; have HO151 := n1_; have HO154 := n2_; have HO157 := n3_; have HO160 := n4_; have HO164 := n5_; have HO170 := n6_; have HB := n7_; clear n0_ n1_ n2_ n3_ n4_ n5_ n6_ n7_; clear hb ho34; obtain ⟨Ao35, co35, eo35⟩ := Kd.N_slice HO170.out; subst eo35) | (go_at_call 14; (with_reducible refine (choose_Check.calls k _ _ y168 t171 _ ?side1 ?side2 A9.out).mono ?_); (case side1 => repeat (first | exact (Kd.N_reads' HO170.out).2.2 | (with_reducible refine Kd.C_alloc ?_ _) | (with_reducible refine Kd.C_drewN ?_ _) | (with_reducible refine Kd.C_drew ?_))); (case side2 => exact (Kd.N_reads' HO170.out).2.1); rintro e w36 ⟨rfl, hb⟩; have n0_ := Aside0.mk (Kd.N_below (by (with_reducible repeat (first | apply Kd.N_alloc | apply Kd.N_drewN | apply Kd.N_drew)); exact HO148.out) hb); have n1_ := Aside0.mk (Kd.R_below (by (with_reducible repeat (first | apply Kd.R_alloc | apply Kd.R_drewN | apply Kd.R_drew)); exact HO151.out) hb); have n2_ := Aside0.mk (Kd.R_below (by (with_reducible repeat (first | apply Kd.R_alloc | apply Kd.R_drewN | apply Kd.R_drew)); exact HO154.out) hb); have n3_ := Aside0.mk (Kd.N_below (by (with_reducible repeat (first | apply Kd.N_alloc | apply Kd.N_drewN | apply Kd.N_drew)); exact HO157.out) hb); have n4_ := Aside0.mk (Kd.N_below (by (with_reducible repeat (first | apply Kd.N_alloc | apply Kd.N_drewN | apply Kd.N_drew)); exact HO160.out) hb); have n5_ := Aside0.mk (Kd.R_below (by (with_reducible repeat (first | apply Kd.R_alloc | apply Kd.R_drewN | apply Kd.R_drew)); exact HO164.out) hb); have n6_ := Aside0.mk (Kd.N_below (by (with_reducible repeat (first | apply Kd.N_alloc | apply Kd.N_drewN | apply Kd.N_drew)); exact HO170.out) hb); have n7_ := Aside0.mk (below_step (by repeat (first | (with_reducible first | exact HB.out | apply below_alloc | apply pw_below_drewN | apply below_drew1) | exact HB.out)) hb); clear HO148; clear HO151; clear HO154; clear HO157; clear HO160; clear HO164; clear HO170; clear HB; have HO148 := n0_; have HO151 := n1_; have HO154 := n2_; have HO157 := n3_; have HO160 := n4_; have HO164 := n5_; have HO170 := n6_; have HB := n7_; clear n0_ n1_ n2_ n3_ n4_ n5_ n6_ n7_; (try clear hb); (try clear hb2); (try clear hk); (try clear hi); obtain ⟨Ao37, co37, eo37⟩ := Kd.N_slice HO160.out; subst eo37))
              go_ret
              exact ⟨by first | rfl | (simp [errW_none, errW_some] <;> rfl) | (simp [*, errW_none, errW_some] <;> rfl), by repeat (first | (with_reducible first | exact HB.out | apply below_alloc | apply pw_below_drewN | apply below_drew1) | exact HB.out)⟩
            · rw [if_neg c12] at H
              exact Bool.noConfusion ((Option.some.inj H).trans hrT.out)
          · rw [if_neg c11] at H
            exact Bool.noConfusion ((Option.some.inj H).trans hrT.out)
        · rw [if_neg c10] at H
          exact Bool.noConfusion ((Option.some.inj H).trans hrT.out)
      · rw [if_neg c8] at H
        exact Bool.noConfusion ((Option.some.inj H).trans hrT.out)
    · replace c6 := Bool.eq_false_iff.mpr c6
      subst c6
      have H1 : (some false) = some r := by rw [if_neg (show ¬ (false = true) by decide)] at H; exact H
      exact Bool.noConfusion ((Option.some.inj H1).trans hrT.out)
  · replace c4 := Bool.eq_false_iff.mpr c4
    subst c4
    have H1 : (some false) = some r := by rw [if_neg (show ¬ (false = true) by decide)] at H; exact H
    exact Bool.noConfusion ((Option.some.inj H1).trans hrT.out)
end Go.Proofs.Ytnpipaehcklnbaa.H
