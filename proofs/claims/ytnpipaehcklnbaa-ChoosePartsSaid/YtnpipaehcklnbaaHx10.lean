-- laid by wip/hyb.py (the kit's printer with turns of ours)
import Derived.Test.YtnpipaehcklnbaaHx0
import Derived.Test.YtnpipaehcklnbaaHx2
import Derived.Test.YtnpipaehcklnbaaHx3
namespace Go.Proofs.Ytnpipaehcklnbaa.H
open Go.RowKit Go.Proofs.YtnpipaehcklnbaaW.PrintWords Go.Proofs.YtnpipaehcklnbaaW.PrintLast Go.Proofs.YtnpipaehcklnbaaW.PrintMore
attribute [local go_sem] max2_int min2_int max_two min_two max_three min_three max_four min_four   -- for this text's walks alone
set_option linter.unusedVariables false
set_option linter.unusedSimpArgs false

/-! ### samphirelaw19_ChooseParts: function 5 -/
mutual
def samphirelaw19_ChooseParts.j0 : Nat → ByteArray → List ByteArray → List ByteArray → Bool → Option (Bool)
  | 0, _, _, _, _ => none
  | k + 1, x0, x1, x2, x39 => if x39 = true then ((samphirelaw19_awake.f k).bind fun t276 => (some t276)) else (if 0 ≤ (wrap64 ((x0.size : Int) - 1)) then (if (wrap64 ((x0.size : Int) - 1)) ≤ (x0.size : Int) then (if (wrap64 ((x0.size : Int) - 1)) < (x0.size : Int) then ((some (([((bt x0 (wrap64 ((x0.size : Int) - 1))) + 1) % 256] : List Int) : List Int)).bind fun y277 => (if (x0.extract 0 ((wrap64 ((x0.size : Int) - 1)) : Int).toNat).size + (strOfNums y277).size ≤ 9223372036854775807 then ((choose_Keys.f k (([(⟨1, x0, (⟨#[]⟩ : ByteArray), ([] : List ByteArray)⟩ : S42)] : List (S42))) x2).bind fun t286 => ((choose_Keys.f k (([(⟨2, x0, (x0.extract 0 ((wrap64 ((x0.size : Int) - 1)) : Int).toNat) ++ (strOfNums y277), ([] : List ByteArray)⟩ : S42)] : List (S42))) x2).bind fun t289 => ((samphireref16_Strings.f k t286 t289).bind fun t292 => (if t292 = true then ((some (([(⟨3, (⟨#[]⟩ : ByteArray), (⟨#[]⟩ : ByteArray), x1⟩ : S42)] : List (S42)) : List (S42))).bind fun y293 => ((some (([(⟨4, (⟨#[]⟩ : ByteArray), (⟨#[]⟩ : ByteArray), x1⟩ : S42)] : List (S42)) : List (S42))).bind fun y296 => ((choose_Check.f k y293).bind fun t299 => (if t299 = 0 then (samphirelaw19_ChooseParts.l0 k y293 y296 x2 (x2.length : Int) 0) else ((choose_Check.f k y296).bind fun t300 => (if t300 = 1 then ((samphirelaw19_awake.f k).bind fun t301 => (some t301)) else (some false))))))) else (some false))))) else (none))) else (none)) else (none)) else (none))
def samphirelaw19_ChooseParts.l0 : Nat → List (S42) → List (S42) → List ByteArray → Int → Int → Option (Bool)
  | 0, _, _, _, _, _ => none
  | k + 1, x10, x11, x85, x86, x87 => if x87 < x86 then (if 0 ≤ x87 then (if x87 < (x85.length : Int) then ((choose_Meant.f k x10 (rdOf ByteArray.empty x85 x87)).bind fun t304 => ((choose_Meant.f k x11 (rdOf ByteArray.empty x85 x87)).bind fun t305 => (if (t304 == t305) = true then (some false) else (samphirelaw19_ChooseParts.l0 k x10 x11 x85 x86 (wrap64 (x87 + 1)))))) else (none)) else (none)) else ((samphirelaw19_awake.f k).bind fun t302 => (some t302))
end
def samphirelaw19_ChooseParts.f (k : Nat) (a0 : ByteArray) (l1 : List ByteArray) (l2 : List ByteArray) : Option (Bool) := if (a0.size : Int) < 1 then (samphirelaw19_ChooseParts.j0 k a0 l1 l2 true) else (if (a0.size : Int) > 64 then (samphirelaw19_ChooseParts.j0 k a0 l1 l2 true) else (if 0 ≤ (wrap64 ((a0.size : Int) - 1)) then (if (wrap64 ((a0.size : Int) - 1)) < (a0.size : Int) then (if (bt a0 (wrap64 ((a0.size : Int) - 1))) = 255 then (samphirelaw19_ChooseParts.j0 k a0 l1 l2 true) else (if (l1.length : Int) > 20 then (samphirelaw19_ChooseParts.j0 k a0 l1 l2 true) else ((samphireref16_Small.f k l2).bind fun t275 => (samphirelaw19_ChooseParts.j0 k a0 l1 l2 (!t275))))) else (none)) else (none)))
theorem samphirelaw19_ChooseParts.mono_l : ∀ k, (∀ y0 y1 y2 y3, LeO (samphirelaw19_ChooseParts.j0 k y0 y1 y2 y3) (samphirelaw19_ChooseParts.j0 (k + 1) y0 y1 y2 y3)) ∧ (∀ y0 y1 y2 y3 y4, LeO (samphirelaw19_ChooseParts.l0 k y0 y1 y2 y3 y4) (samphirelaw19_ChooseParts.l0 (k + 1) y0 y1 y2 y3 y4))
  | 0 => ⟨fun _ _ _ _ r h => by simp [samphirelaw19_ChooseParts.j0] at h, fun _ _ _ _ _ r h => by simp [samphirelaw19_ChooseParts.l0] at h⟩
  | k + 1 => by
    obtain ⟨ih0, ih1⟩ := samphirelaw19_ChooseParts.mono_l k
    refine ⟨?_, ?_⟩
    · intro y0 y1 y2 y3
      unfold samphirelaw19_ChooseParts.j0
      repeat' first
      | (with_reducible exact ih0 _ _ _ _)
      | (with_reducible exact ih1 _ _ _ _ _)
      | (with_reducible exact choose_Check.mono _ _)
      | (with_reducible exact choose_Keys.mono _ _ _)
      | (with_reducible exact choose_Meant.mono _ _ _)
      | (with_reducible exact samphirelaw19_awake.mono _)
      | (with_reducible exact samphireref16_Small.mono _ _)
      | (with_reducible exact samphireref16_Strings.mono _ _ _)
      | (with_reducible exact LeO.refl _)
      | (with_reducible exact LeO.none _)
      | (with_reducible refine LeO.ite ?_ ?_)
      | (with_reducible refine LeO.bind ?_ (fun _ => ?_))
      | exact ih0 _ _ _ _
      | exact ih1 _ _ _ _ _
      | exact choose_Check.mono _ _
      | exact choose_Keys.mono _ _ _
      | exact choose_Meant.mono _ _ _
      | exact samphirelaw19_awake.mono _
      | exact samphireref16_Small.mono _ _
      | exact samphireref16_Strings.mono _ _ _
      | exact LeO.none _
      | refine LeO.ite ?_ ?_
      | refine LeO.bind ?_ (fun _ => ?_)
    · intro y0 y1 y2 y3 y4
      unfold samphirelaw19_ChooseParts.l0
      repeat' first
      | (with_reducible exact ih0 _ _ _ _)
      | (with_reducible exact ih1 _ _ _ _ _)
      | (with_reducible exact choose_Check.mono _ _)
      | (with_reducible exact choose_Keys.mono _ _ _)
      | (with_reducible exact choose_Meant.mono _ _ _)
      | (with_reducible exact samphirelaw19_awake.mono _)
      | (with_reducible exact samphireref16_Small.mono _ _)
      | (with_reducible exact samphireref16_Strings.mono _ _ _)
      | (with_reducible exact LeO.refl _)
      | (with_reducible exact LeO.none _)
      | (with_reducible refine LeO.ite ?_ ?_)
      | (with_reducible refine LeO.bind ?_ (fun _ => ?_))
      | exact ih0 _ _ _ _
      | exact ih1 _ _ _ _ _
      | exact choose_Check.mono _ _
      | exact choose_Keys.mono _ _ _
      | exact choose_Meant.mono _ _ _
      | exact samphirelaw19_awake.mono _
      | exact samphireref16_Small.mono _ _
      | exact samphireref16_Strings.mono _ _ _
      | exact LeO.none _
      | refine LeO.ite ?_ ?_
      | refine LeO.bind ?_ (fun _ => ?_)
theorem samphirelaw19_ChooseParts.mono : ∀ a0 a1 a2 k, LeO (samphirelaw19_ChooseParts.f k a0 a1 a2) (samphirelaw19_ChooseParts.f (k + 1) a0 a1 a2) := by
  intro a0 a1 a2 k
  obtain ⟨ih0, ih1⟩ := samphirelaw19_ChooseParts.mono_l k
  unfold samphirelaw19_ChooseParts.f
  repeat' first
      | (with_reducible exact ih0 _ _ _ _)
      | (with_reducible exact ih1 _ _ _ _ _)
      | (with_reducible exact choose_Check.mono _ _)
      | (with_reducible exact choose_Keys.mono _ _ _)
      | (with_reducible exact choose_Meant.mono _ _ _)
      | (with_reducible exact samphirelaw19_awake.mono _)
      | (with_reducible exact samphireref16_Small.mono _ _)
      | (with_reducible exact samphireref16_Strings.mono _ _ _)
      | (with_reducible exact LeO.refl _)
      | (with_reducible exact LeO.none _)
      | (with_reducible refine LeO.ite ?_ ?_)
      | (with_reducible refine LeO.bind ?_ (fun _ => ?_))
      | exact ih0 _ _ _ _
      | exact ih1 _ _ _ _ _
      | exact choose_Check.mono _ _
      | exact choose_Keys.mono _ _ _
      | exact choose_Meant.mono _ _ _
      | exact samphirelaw19_awake.mono _
      | exact samphireref16_Small.mono _ _
      | exact samphireref16_Strings.mono _ _ _
      | exact LeO.none _
      | refine LeO.ite ?_ ?_
      | refine LeO.bind ?_ (fun _ => ?_)
def samphirelaw19_ChooseParts.T3 : Bool × List (List Nat × List Nat) := (true, [([], []), ([], []), ([1], [1]), ([2], [2]), ([0, 3], [0, 3]), ([], []), ([], []), ([6], [6]), ([7], [7]), ([5, 8], [5, 8]), ([9], [9]), ([10], [10]), ([11], [11]), ([4, 12], [4, 12]), ([13, 0, 1, 2, 3, 4, 5, 6, 7, 8, 9, 10, 11, 12, 13], [13])])
def samphirelaw19_ChooseParts.B3 : List Nat := [0, 0, 2, 6, 15, 0, 0, 64, 192, 480, 992, 2016, 4064, 8191, 16383]
theorem samphirelaw19_ChooseParts.tab3 : rtab .any (opsOf Try.f5 3) = samphirelaw19_ChooseParts.T3 := by kernel_rfl
theorem samphirelaw19_ChooseParts.bits3 : waitsOk samphirelaw19_ChooseParts.T3.2 samphirelaw19_ChooseParts.B3 = true := by kernel_rfl
set_option maxHeartbeats 8000000 in
set_option maxRecDepth 100000 in
theorem samphirelaw19_ChooseParts.calls (k : Nat) (a0 : ByteArray) (P1_ : Nat → Prop) (A1 : Option Addr) (c1 : Nat) (l1 : List ByteArray) (A2 : Option Addr) (c2 : Nat) (l2 : List ByteArray) (r : Bool) (w : World) (hs1 : Kd.V Kd.string 9 w w.heap.size (fun k_ => P1_ k_) (.slice A1 l1.length c1) l1) (hr2 : Kd.C Kd.string w A2 l2.length l2) (hc2 : l2.length ≤ c2) (h : samphirelaw19_ChooseParts.f k a0 l1 l2 = some r) :
    Calls Try.prog 5 #[.string a0, .slice A1 l1.length c1, .slice A2 l2.length c2] w fun e w' => e = .returned (.bool r) ∧ Below w.heap.size w w' := by
  have hu42 := Try.underlying42
  have HO1 := Aside0.mk (show Kd.V Kd.string 9 w w.heap.size (fun k_ => (P1_ k_ ∨ w.heap.size ≤ k_)) (.slice A1 l1.length c1) l1 from Kd.V_mono hs1 (fun k_ hk => .inl hk))
  have HR2 := Aside0.mk hr2
  have HC2 := Aside0.mk hc2
  clear hr2 hc2
  have HB := Aside0.mk (Below.refl w.heap.size w)
  have H : (if (a0.size : Int) < 1 then (samphirelaw19_ChooseParts.j0 k a0 l1 l2 true) else (if (a0.size : Int) > 64 then (samphirelaw19_ChooseParts.j0 k a0 l1 l2 true) else (if 0 ≤ (wrap64 ((a0.size : Int) - 1)) then (if (wrap64 ((a0.size : Int) - 1)) < (a0.size : Int) then (if (bt a0 (wrap64 ((a0.size : Int) - 1))) = 255 then (samphirelaw19_ChooseParts.j0 k a0 l1 l2 true) else (if (l1.length : Int) > 20 then (samphirelaw19_ChooseParts.j0 k a0 l1 l2 true) else ((samphireref16_Small.f k l2).bind fun t275 => (samphirelaw19_ChooseParts.j0 k a0 l1 l2 (!t275))))) else (none)) else (none)))) = some r := h
  clear h
  have HC4 := Aside0.mk H
  clear H
  go_enter Try.func5, Try.ntmps5
  go_upto_region 1 with (fail)
  go_cut [39] (fun v39 wc => ∃ (kq : Nat) (x39_3 : Bool), v39 = .bool x39_3 ∧ Aside0 (samphirelaw19_ChooseParts.j0 kq a0 l1 l2 x39_3 = some r) ∧ Aside0 (kq ≤ k) ∧ Aside0 (Kd.V Kd.string 9 wc w.heap.size (fun k_ => (P1_ k_ ∨ w.heap.size ≤ k_)) (.slice A1 l1.length c1) l1) ∧ Aside0 (Below w.heap.size w wc))
  case first =>
    have H := HC4.out
    clear HC4
    by_cases c5 : (a0.size : Int) < 1
    · rw [if_pos c5] at H
      have c5b0 : decide ((a0.size : Int) < 1) = true := decide_eq_true c5
      have c5b1 : decide (a0.size < 1) = true := decide_eq_true (by omega)
      clear c5
      (first | rw [c5b0] | (simp only [i64_w, i32_w]; rw [c5b0]) | skip)
      have H' := Aside0.mk H
      clear H
      go_wp2
      go_meet
      case rel => exact ⟨_, (true), (by first | rfl | (simp; done) | (simp [*]; done)), H', ⟨by first | omega | exact Nat.le_refl _⟩, ⟨by (with_reducible repeat (first | apply Kd.V_alloc | apply Kd.V_drewN | apply Kd.V_drew)); exact HO1.out⟩, ⟨by repeat (first | (with_reducible first | exact HB.out | apply below_alloc | apply pw_below_drewN | apply below_drew1) | exact HB.out)⟩⟩
    · rw [if_neg c5] at H
      have c5b0 : decide ((a0.size : Int) < 1) = false := decide_eq_false c5
      have c5b1 : decide (a0.size < 1) = false := decide_eq_false (by omega)
      clear c5
      (first | rw [c5b0] | (simp only [i64_w, i32_w]; rw [c5b0]) | skip)
      by_cases c6 : (a0.size : Int) > 64
      · rw [if_pos c6] at H
        have c6b0 : decide (64 < (a0.size : Int)) = true := decide_eq_true c6
        have c6b1 : decide (64 < a0.size) = true := decide_eq_true (by omega)
        clear c6
        have H' := Aside0.mk H
        clear H
        go_wp2
        go_meet
        case rel => exact ⟨_, (true), (by first | rfl | (simp; done) | (simp [*]; done)), H', ⟨by first | omega | exact Nat.le_refl _⟩, ⟨by (with_reducible repeat (first | apply Kd.V_alloc | apply Kd.V_drewN | apply Kd.V_drew)); exact HO1.out⟩, ⟨by repeat (first | (with_reducible first | exact HB.out | apply below_alloc | apply pw_below_drewN | apply below_drew1) | exact HB.out)⟩⟩
      · rw [if_neg c6] at H
        have c6b0 : decide (64 < (a0.size : Int)) = false := decide_eq_false c6
        have c6b1 : decide (64 < a0.size) = false := decide_eq_false (by omega)
        clear c6
        obtain ⟨ji7, hji7⟩ : ∃ j_ : Int, (wrap64 ((a0.size : Int) - 1)) = j_ := ⟨_, rfl⟩
        replace H : (if 0 ≤ (ji7) then (if (ji7) < (a0.size : Int) then (if (bt a0 (ji7)) = 255 then (samphirelaw19_ChooseParts.j0 k a0 l1 l2 true) else (if (l1.length : Int) > 20 then (samphirelaw19_ChooseParts.j0 k a0 l1 l2 true) else ((samphireref16_Small.f k l2).bind fun t275 => (samphirelaw19_ChooseParts.j0 k a0 l1 l2 (!t275))))) else (none)) else (none)) = some r := by first | (rw [hji7] at H; exact H) | (simp only [hji7] at H ⊢; exact H)
        have hji7w : (IntKind.i64.wrap ((a0.size : Int) - 1)) = ji7 := (i64_w _).trans hji7
        by_cases c8 : 0 ≤ (ji7)
        · rw [if_pos c8] at H
          have c8b0 : decide (0 ≤ (ji7)) = true := decide_eq_true c8
          clear c8
          by_cases c9 : (ji7) < (a0.size : Int)
          · rw [if_pos c9] at H
            have c9b0 : decide ((ji7) < (a0.size : Int)) = true := decide_eq_true c9
            clear c9
            by_cases c11 : (bt a0 (ji7)) = 255
            · rw [if_pos c11] at H
              have c11b0 : ((bt a0 (ji7)) == 255) = true := beq_iff_eq.mpr c11
              have c11b1 : ((bt a0 (ji7)) != 255) = false := bne_eq_false_iff_eq.mpr c11
              clear c11
              have H' := Aside0.mk H
              clear H
              have p10 : 0 ≤ ((ji7) : Int) := of_decide_eq_true (by first | (with_reducible assumption) | assumption)
              have q10 : (ji7) < (a0.size : Int) := of_decide_eq_true (by first | (with_reducible assumption) | assumption)
              have hx10 := bt_at a0 (ji7)
              replace p10 := eq_true p10
              replace q10 := eq_true q10
              go_wp2
              go_meet
              case rel => exact ⟨_, (true), (by first | rfl | (simp; done) | (simp [*]; done)), H', ⟨by first | omega | exact Nat.le_refl _⟩, ⟨by (with_reducible repeat (first | apply Kd.V_alloc | apply Kd.V_drewN | apply Kd.V_drew)); exact HO1.out⟩, ⟨by repeat (first | (with_reducible first | exact HB.out | apply below_alloc | apply pw_below_drewN | apply below_drew1) | exact HB.out)⟩⟩
            · rw [if_neg c11] at H
              have c11b0 : ((bt a0 (ji7)) == 255) = false := beq_eq_false_iff_ne.mpr c11
              have c11b1 : ((bt a0 (ji7)) != 255) = true := bne_iff_ne.mpr c11
              by_cases c12 : (l1.length : Int) > 20
              · rw [if_pos c12] at H
                have c12b0 : decide (20 < (l1.length : Int)) = true := decide_eq_true c12
                have c12b1 : decide (20 < l1.length) = true := decide_eq_true (by omega)
                clear c12
                have H' := Aside0.mk H
                clear H
                have p10 : 0 ≤ ((ji7) : Int) := of_decide_eq_true (by first | (with_reducible assumption) | assumption)
                have q10 : (ji7) < (a0.size : Int) := of_decide_eq_true (by first | (with_reducible assumption) | assumption)
                have hx10 := bt_at a0 (ji7)
                replace p10 := eq_true p10
                replace q10 := eq_true q10
                go_wp2
                go_meet
                case rel => exact ⟨_, (true), (by first | rfl | (simp; done) | (simp [*]; done)), H', ⟨by first | omega | exact Nat.le_refl _⟩, ⟨by (with_reducible repeat (first | apply Kd.V_alloc | apply Kd.V_drewN | apply Kd.V_drew)); exact HO1.out⟩, ⟨by repeat (first | (with_reducible first | exact HB.out | apply below_alloc | apply pw_below_drewN | apply below_drew1) | exact HB.out)⟩⟩
              · rw [if_neg c12] at H
                have c12b0 : decide (20 < (l1.length : Int)) = false := decide_eq_false c12
                have c12b1 : decide (20 < l1.length) = false := decide_eq_false (by omega)
                clear c12
                replace H := Option.bind_eq_some_iff.mp H
                obtain ⟨t275, A130, H⟩ := H
                replace H : (samphirelaw19_ChooseParts.j0 k a0 l1 l2 (!t275)) = some r := H
                have A13 := Aside0.mk A130
                clear A130
                have H' := Aside0.mk H
                clear H
                have p10 : 0 ≤ ((ji7) : Int) := of_decide_eq_true (by first | (with_reducible assumption) | assumption)
                have q10 : (ji7) < (a0.size : Int) := of_decide_eq_true (by first | (with_reducible assumption) | assumption)
                have hx10 := bt_at a0 (ji7)
                replace p10 := eq_true p10
                replace q10 := eq_true q10
                go_wp2_with (first | (go_at_call 10; (with_reducible refine (samphireref16_Small.calls k _ _ l2 t275 _ ?side1 ?side2 A13.out).mono ?_); (case side1 => repeat (first | exact (Kd.C_below HR2.out HB.out) | (with_reducible refine Kd.C_alloc ?_ _) | (with_reducible refine Kd.C_drewN ?_ _) | (with_reducible refine Kd.C_drew ?_))); (case side2 => exact HC2.out); rintro e w' ⟨rfl, ⟨nd, rfl⟩⟩))
                go_meet
                case rel => exact ⟨_, (!t275), (by first | rfl | (simp; done) | (simp [*]; done)), H', ⟨by first | omega | exact Nat.le_refl _⟩, ⟨by (with_reducible repeat (first | apply Kd.V_alloc | apply Kd.V_drewN | apply Kd.V_drew)); exact HO1.out⟩, ⟨by repeat (first | (with_reducible first | exact HB.out | apply below_alloc | apply pw_below_drewN | apply below_drew1) | exact HB.out)⟩⟩
          · rw [if_neg c9] at H
            exact absurd H (by simp)
        · rw [if_neg c8] at H
          exact absurd H (by simp)
  case rest =>
    clear HC4
    try clear c1
    try clear p1
    try clear q1
    try clear hx1
    try clear c2
    try clear p2
    try clear c5
    try clear c5b0
    try clear c5b1
    try clear c6
    try clear c6b0
    try clear c6b1
    try clear p6
    try clear c8
    try clear c8b0
    try clear c9
    try clear c9b0
    try clear p10
    try clear q10
    try clear hx10
    try clear c11
    try clear c11b0
    try clear c11b1
    try clear c12
    try clear c12b0
    try clear c12b1
    try clear p10
    try clear q10
    obtain ⟨kq, x39_3, rfl, HA, HJ3, HO_1, HB⟩ := hcut
    cases kq with
    | zero => exact absurd HA.out (by simp [samphirelaw19_ChooseParts.j0])
    | succ kj3 =>
      have H := HA.out
      clear HA
      simp only [samphirelaw19_ChooseParts.j0] at H
      by_cases c14 : x39_3 = true
      · subst c14
        have H1 : ((samphirelaw19_awake.f kj3).bind fun t276 => (some t276)) = some r := by rw [if_pos rfl] at H; exact H
        clear H
        have H := H1
        clear H1
        replace H := Option.bind_eq_some_iff.mp H
        obtain ⟨t276, A150, H⟩ := H
        replace H : (some t276) = some r := H
        have A15 := Aside0.mk A150
        clear A150
        obtain rfl := Option.some.inj H
        go_wp2_with (first | ((with_reducible refine gate_callee (f := 11) rfl ?_); refine goesL_ (some 40) rfl rfl Try.func11 (by kernel_rfl) rfl #[] rfl (by (try simp only [List.map_toArray, List.map_cons, List.map_nil]); first | done | rfl | (simp only [List.length_drop, List.length_take]; rfl)) ?_; (with_reducible refine (samphirelaw19_awake.calls kj3  t276 _ A15.out).mono ?_); rintro e w16 ⟨rfl, hb⟩; refine ⟨_, rfl, ?_⟩; have n0_ := Aside0.mk (Kd.V_below (by (with_reducible repeat (first | apply Kd.V_alloc | apply Kd.V_drewN | apply Kd.V_drew)); exact HO_1.out) hb); have n1_ := Aside0.mk (below_step (by repeat (first | (with_reducible first | exact HB.out | apply below_alloc | apply pw_below_drewN | apply below_drew1) | exact HB.out)) hb); clear HO_1; clear HB; have HO_1 := n0_; have HB := n1_; clear n0_ n1_; (try clear hb); (try clear hb2); (try clear hk); (try clear hi)))
        go_ret
        exact ⟨by first | rfl | (simp [errW_none, errW_some] <;> rfl) | (simp [*, errW_none, errW_some] <;> rfl), by repeat (first | (with_reducible first | exact HB.out | apply below_alloc | apply pw_below_drewN | apply below_drew1) | exact HB.out)⟩
      · replace c14 := Bool.eq_false_iff.mpr c14
        subst c14
        have H1 : (if 0 ≤ (wrap64 ((a0.size : Int) - 1)) then (if (wrap64 ((a0.size : Int) - 1)) ≤ (a0.size : Int) then (if (wrap64 ((a0.size : Int) - 1)) < (a0.size : Int) then ((some (([((bt a0 (wrap64 ((a0.size : Int) - 1))) + 1) % 256] : List Int) : List Int)).bind fun y277 => (if (a0.extract 0 ((wrap64 ((a0.size : Int) - 1)) : Int).toNat).size + (strOfNums y277).size ≤ 9223372036854775807 then ((choose_Keys.f kj3 (([(⟨1, a0, (⟨#[]⟩ : ByteArray), ([] : List ByteArray)⟩ : S42)] : List (S42))) l2).bind fun t286 => ((choose_Keys.f kj3 (([(⟨2, a0, (a0.extract 0 ((wrap64 ((a0.size : Int) - 1)) : Int).toNat) ++ (strOfNums y277), ([] : List ByteArray)⟩ : S42)] : List (S42))) l2).bind fun t289 => ((samphireref16_Strings.f kj3 t286 t289).bind fun t292 => (if t292 = true then ((some (([(⟨3, (⟨#[]⟩ : ByteArray), (⟨#[]⟩ : ByteArray), l1⟩ : S42)] : List (S42)) : List (S42))).bind fun y293 => ((some (([(⟨4, (⟨#[]⟩ : ByteArray), (⟨#[]⟩ : ByteArray), l1⟩ : S42)] : List (S42)) : List (S42))).bind fun y296 => ((choose_Check.f kj3 y293).bind fun t299 => (if t299 = 0 then (samphirelaw19_ChooseParts.l0 kj3 y293 y296 l2 (l2.length : Int) 0) else ((choose_Check.f kj3 y296).bind fun t300 => (if t300 = 1 then ((samphirelaw19_awake.f kj3).bind fun t301 => (some t301)) else (some false))))))) else (some false))))) else (none))) else (none)) else (none)) else (none)) = some r := by rw [if_neg (show ¬ (false = true) by decide)] at H; exact H
        clear H
        have H := H1
        clear H1
        obtain ⟨ji17, hji17⟩ : ∃ j_ : Int, (wrap64 ((a0.size : Int) - 1)) = j_ := ⟨_, rfl⟩
        replace H : (if 0 ≤ (ji17) then (if (ji17) ≤ (a0.size : Int) then (if (ji17) < (a0.size : Int) then ((some (([((bt a0 (ji17)) + 1) % 256] : List Int) : List Int)).bind fun y277 => (if (a0.extract 0 ((ji17) : Int).toNat).size + (strOfNums y277).size ≤ 9223372036854775807 then ((choose_Keys.f kj3 (([(⟨1, a0, (⟨#[]⟩ : ByteArray), ([] : List ByteArray)⟩ : S42)] : List (S42))) l2).bind fun t286 => ((choose_Keys.f kj3 (([(⟨2, a0, (a0.extract 0 ((ji17) : Int).toNat) ++ (strOfNums y277), ([] : List ByteArray)⟩ : S42)] : List (S42))) l2).bind fun t289 => ((samphireref16_Strings.f kj3 t286 t289).bind fun t292 => (if t292 = true then ((some (([(⟨3, (⟨#[]⟩ : ByteArray), (⟨#[]⟩ : ByteArray), l1⟩ : S42)] : List (S42)) : List (S42))).bind fun y293 => ((some (([(⟨4, (⟨#[]⟩ : ByteArray), (⟨#[]⟩ : ByteArray), l1⟩ : S42)] : List (S42)) : List (S42))).bind fun y296 => ((choose_Check.f kj3 y293).bind fun t299 => (if t299 = 0 then (samphirelaw19_ChooseParts.l0 kj3 y293 y296 l2 (l2.length : Int) 0) else ((choose_Check.f kj3 y296).bind fun t300 => (if t300 = 1 then ((samphirelaw19_awake.f kj3).bind fun t301 => (some t301)) else (some false))))))) else (some false))))) else (none))) else (none)) else (none)) else (none)) = some r := by first | (rw [hji17] at H; exact H) | (simp only [hji17] at H ⊢; exact H)
        have hji17w : (IntKind.i64.wrap ((a0.size : Int) - 1)) = ji17 := (i64_w _).trans hji17
        by_cases c18 : 0 ≤ (ji17)
        · rw [if_pos c18] at H
          have c18b0 := eq_true c18
          have c18b1 : decide (0 ≤ (ji17)) = true := decide_eq_true c18
          clear c18
          by_cases c19 : (ji17) ≤ (a0.size : Int)
          · rw [if_pos c19] at H
            have c19b0 := eq_true c19
            have c19b1 : decide ((ji17) ≤ (a0.size : Int)) = true := decide_eq_true c19
            clear c19
            by_cases c20 : (ji17) < (a0.size : Int)
            · rw [if_pos c20] at H
              have c20b0 : decide ((ji17) < (a0.size : Int)) = true := decide_eq_true c20
              clear c20
              obtain ⟨y277, hy277⟩ : ∃ y_ : List Int, y_ = (([((bt a0 (ji17)) + 1) % 256] : List Int)) := ⟨_, rfl⟩
              replace H : (if (a0.extract 0 ((ji17) : Int).toNat).size + (strOfNums y277).size ≤ 9223372036854775807 then ((choose_Keys.f kj3 (([(⟨1, a0, (⟨#[]⟩ : ByteArray), ([] : List ByteArray)⟩ : S42)] : List (S42))) l2).bind fun t286 => ((choose_Keys.f kj3 (([(⟨2, a0, (a0.extract 0 ((ji17) : Int).toNat) ++ (strOfNums y277), ([] : List ByteArray)⟩ : S42)] : List (S42))) l2).bind fun t289 => ((samphireref16_Strings.f kj3 t286 t289).bind fun t292 => (if t292 = true then ((some (([(⟨3, (⟨#[]⟩ : ByteArray), (⟨#[]⟩ : ByteArray), l1⟩ : S42)] : List (S42)) : List (S42))).bind fun y293 => ((some (([(⟨4, (⟨#[]⟩ : ByteArray), (⟨#[]⟩ : ByteArray), l1⟩ : S42)] : List (S42)) : List (S42))).bind fun y296 => ((choose_Check.f kj3 y293).bind fun t299 => (if t299 = 0 then (samphirelaw19_ChooseParts.l0 kj3 y293 y296 l2 (l2.length : Int) 0) else ((choose_Check.f kj3 y296).bind fun t300 => (if t300 = 1 then ((samphirelaw19_awake.f kj3).bind fun t301 => (some t301)) else (some false))))))) else (some false))))) else (none)) = some r := by first | (rw [hy277]; with_reducible exact H) | (have H2_ := (Option.bind_some _ _).symm.trans H; rw [hy277]; with_reducible exact H2_) | (have H2_ := (Option.bind_some _ _).symm.trans H; with_reducible exact H2_) | with_reducible exact H | (rw [hy277]; exact H) | exact H
              have Ny277 := Aside0.mk hy277
              clear hy277
              by_cases c22 : (a0.extract 0 ((ji17) : Int).toNat).size + (strOfNums y277).size ≤ 9223372036854775807
              · rw [if_pos c22] at H
                have c22b0 := eq_true c22
                have c22b1 : decide ((a0.extract 0 ((ji17) : Int).toNat).size + (strOfNums y277).size ≤ 9223372036854775807) = true := decide_eq_true c22
                try have c22b2 : (9223372036854775807 < (a0.extract 0 ((ji17) : Int).toNat).size + (strOfNums y277).size) = False := eq_false (Nat.not_lt.2 c22)
                have c22b3 : (9223372036854775807 < ji17.toNat + (strOfNums y277).size) = False := by
                  have h19 := of_decide_eq_true c19b1
                  have hs : (a0.extract 0 ji17.toNat).size = ji17.toNat := by rw [ByteArray.size_extract]; omega
                  rw [← c22b2, hs]
                obtain ⟨y280, hy280⟩ : ∃ y_ : List (S42), y_ = (([(⟨1, a0, (⟨#[]⟩ : ByteArray), ([] : List ByteArray)⟩ : S42)] : List (S42))) := ⟨_, rfl⟩
                replace H : ((choose_Keys.f kj3 y280 l2).bind fun t286 => ((choose_Keys.f kj3 (([(⟨2, a0, (a0.extract 0 ((ji17) : Int).toNat) ++ (strOfNums y277), ([] : List ByteArray)⟩ : S42)] : List (S42))) l2).bind fun t289 => ((samphireref16_Strings.f kj3 t286 t289).bind fun t292 => (if t292 = true then ((some (([(⟨3, (⟨#[]⟩ : ByteArray), (⟨#[]⟩ : ByteArray), l1⟩ : S42)] : List (S42)) : List (S42))).bind fun y293 => ((some (([(⟨4, (⟨#[]⟩ : ByteArray), (⟨#[]⟩ : ByteArray), l1⟩ : S42)] : List (S42)) : List (S42))).bind fun y296 => ((choose_Check.f kj3 y293).bind fun t299 => (if t299 = 0 then (samphirelaw19_ChooseParts.l0 kj3 y293 y296 l2 (l2.length : Int) 0) else ((choose_Check.f kj3 y296).bind fun t300 => (if t300 = 1 then ((samphirelaw19_awake.f kj3).bind fun t301 => (some t301)) else (some false))))))) else (some false))))) = some r := by first | (rw [hy280]; with_reducible exact H) | (have H2_ := (Option.bind_some _ _).symm.trans H; rw [hy280]; with_reducible exact H2_) | (have H2_ := (Option.bind_some _ _).symm.trans H; with_reducible exact H2_) | with_reducible exact H | (rw [hy280]; exact H) | exact H
                have Ny280 := Aside0.mk hy280
                clear hy280
                obtain ⟨y283, hy283⟩ : ∃ y_ : List (S42), y_ = (([(⟨2, a0, (a0.extract 0 ((ji17) : Int).toNat) ++ (strOfNums y277), ([] : List ByteArray)⟩ : S42)] : List (S42))) := ⟨_, rfl⟩
                replace H : ((choose_Keys.f kj3 y280 l2).bind fun t286 => ((choose_Keys.f kj3 y283 l2).bind fun t289 => ((samphireref16_Strings.f kj3 t286 t289).bind fun t292 => (if t292 = true then ((some (([(⟨3, (⟨#[]⟩ : ByteArray), (⟨#[]⟩ : ByteArray), l1⟩ : S42)] : List (S42)) : List (S42))).bind fun y293 => ((some (([(⟨4, (⟨#[]⟩ : ByteArray), (⟨#[]⟩ : ByteArray), l1⟩ : S42)] : List (S42)) : List (S42))).bind fun y296 => ((choose_Check.f kj3 y293).bind fun t299 => (if t299 = 0 then (samphirelaw19_ChooseParts.l0 kj3 y293 y296 l2 (l2.length : Int) 0) else ((choose_Check.f kj3 y296).bind fun t300 => (if t300 = 1 then ((samphirelaw19_awake.f kj3).bind fun t301 => (some t301)) else (some false))))))) else (some false))))) = some r := by first | (rw [hy283]; with_reducible exact H) | (have H2_ := (Option.bind_some _ _).symm.trans H; rw [hy283]; with_reducible exact H2_) | (have H2_ := (Option.bind_some _ _).symm.trans H; with_reducible exact H2_) | with_reducible exact H | (rw [hy283]; exact H) | exact H
                have Ny283 := Aside0.mk hy283
                clear hy283
                replace H := Option.bind_eq_some_iff.mp H
                obtain ⟨t286, A230, H⟩ := H
                replace H : ((choose_Keys.f kj3 y283 l2).bind fun t289 => ((samphireref16_Strings.f kj3 t286 t289).bind fun t292 => (if t292 = true then ((some (([(⟨3, (⟨#[]⟩ : ByteArray), (⟨#[]⟩ : ByteArray), l1⟩ : S42)] : List (S42)) : List (S42))).bind fun y293 => ((some (([(⟨4, (⟨#[]⟩ : ByteArray), (⟨#[]⟩ : ByteArray), l1⟩ : S42)] : List (S42)) : List (S42))).bind fun y296 => ((choose_Check.f kj3 y293).bind fun t299 => (if t299 = 0 then (samphirelaw19_ChooseParts.l0 kj3 y293 y296 l2 (l2.length : Int) 0) else ((choose_Check.f kj3 y296).bind fun t300 => (if t300 = 1 then ((samphirelaw19_awake.f kj3).bind fun t301 => (some t301)) else (some false))))))) else (some false)))) = some r := H
                have A23 := Aside0.mk A230
                clear A230
                replace H := Option.bind_eq_some_iff.mp H
                obtain ⟨t289, A240, H⟩ := H
                replace H : ((samphireref16_Strings.f kj3 t286 t289).bind fun t292 => (if t292 = true then ((some (([(⟨3, (⟨#[]⟩ : ByteArray), (⟨#[]⟩ : ByteArray), l1⟩ : S42)] : List (S42)) : List (S42))).bind fun y293 => ((some (([(⟨4, (⟨#[]⟩ : ByteArray), (⟨#[]⟩ : ByteArray), l1⟩ : S42)] : List (S42)) : List (S42))).bind fun y296 => ((choose_Check.f kj3 y293).bind fun t299 => (if t299 = 0 then (samphirelaw19_ChooseParts.l0 kj3 y293 y296 l2 (l2.length : Int) 0) else ((choose_Check.f kj3 y296).bind fun t300 => (if t300 = 1 then ((samphirelaw19_awake.f kj3).bind fun t301 => (some t301)) else (some false))))))) else (some false))) = some r := H
                have A24 := Aside0.mk A240
                clear A240
                replace H := Option.bind_eq_some_iff.mp H
                obtain ⟨t292, A250, H⟩ := H
                replace H : (if t292 = true then ((some (([(⟨3, (⟨#[]⟩ : ByteArray), (⟨#[]⟩ : ByteArray), l1⟩ : S42)] : List (S42)) : List (S42))).bind fun y293 => ((some (([(⟨4, (⟨#[]⟩ : ByteArray), (⟨#[]⟩ : ByteArray), l1⟩ : S42)] : List (S42)) : List (S42))).bind fun y296 => ((choose_Check.f kj3 y293).bind fun t299 => (if t299 = 0 then (samphirelaw19_ChooseParts.l0 kj3 y293 y296 l2 (l2.length : Int) 0) else ((choose_Check.f kj3 y296).bind fun t300 => (if t300 = 1 then ((samphirelaw19_awake.f kj3).bind fun t301 => (some t301)) else (some false))))))) else (some false)) = some r := H
                have A25 := Aside0.mk A250
                clear A250
                by_cases c26 : t292 = true
                · subst c26
                  have H1 : ((some (([(⟨3, (⟨#[]⟩ : ByteArray), (⟨#[]⟩ : ByteArray), l1⟩ : S42)] : List (S42)) : List (S42))).bind fun y293 => ((some (([(⟨4, (⟨#[]⟩ : ByteArray), (⟨#[]⟩ : ByteArray), l1⟩ : S42)] : List (S42)) : List (S42))).bind fun y296 => ((choose_Check.f kj3 y293).bind fun t299 => (if t299 = 0 then (samphirelaw19_ChooseParts.l0 kj3 y293 y296 l2 (l2.length : Int) 0) else ((choose_Check.f kj3 y296).bind fun t300 => (if t300 = 1 then ((samphirelaw19_awake.f kj3).bind fun t301 => (some t301)) else (some false))))))) = some r := by rw [if_pos rfl] at H; exact H
                  clear H
                  have H := H1
                  clear H1
                  obtain ⟨y293, hy293⟩ : ∃ y_ : List (S42), y_ = (([(⟨3, (⟨#[]⟩ : ByteArray), (⟨#[]⟩ : ByteArray), l1⟩ : S42)] : List (S42))) := ⟨_, rfl⟩
                  replace H : ((some (([(⟨4, (⟨#[]⟩ : ByteArray), (⟨#[]⟩ : ByteArray), l1⟩ : S42)] : List (S42)) : List (S42))).bind fun y296 => ((choose_Check.f kj3 y293).bind fun t299 => (if t299 = 0 then (samphirelaw19_ChooseParts.l0 kj3 y293 y296 l2 (l2.length : Int) 0) else ((choose_Check.f kj3 y296).bind fun t300 => (if t300 = 1 then ((samphirelaw19_awake.f kj3).bind fun t301 => (some t301)) else (some false)))))) = some r := by first | (rw [hy293]; with_reducible exact H) | (have H2_ := (Option.bind_some _ _).symm.trans H; rw [hy293]; with_reducible exact H2_) | (have H2_ := (Option.bind_some _ _).symm.trans H; with_reducible exact H2_) | with_reducible exact H | (rw [hy293]; exact H) | exact H
                  have Ny293 := Aside0.mk hy293
                  clear hy293
                  obtain ⟨y296, hy296⟩ : ∃ y_ : List (S42), y_ = (([(⟨4, (⟨#[]⟩ : ByteArray), (⟨#[]⟩ : ByteArray), l1⟩ : S42)] : List (S42))) := ⟨_, rfl⟩
                  replace H : ((choose_Check.f kj3 y293).bind fun t299 => (if t299 = 0 then (samphirelaw19_ChooseParts.l0 kj3 y293 y296 l2 (l2.length : Int) 0) else ((choose_Check.f kj3 y296).bind fun t300 => (if t300 = 1 then ((samphirelaw19_awake.f kj3).bind fun t301 => (some t301)) else (some false))))) = some r := by first | (rw [hy296]; with_reducible exact H) | (have H2_ := (Option.bind_some _ _).symm.trans H; rw [hy296]; with_reducible exact H2_) | (have H2_ := (Option.bind_some _ _).symm.trans H; with_reducible exact H2_) | with_reducible exact H | (rw [hy296]; exact H) | exact H
                  have Ny296 := Aside0.mk hy296
                  clear hy296
                  replace H := Option.bind_eq_some_iff.mp H
                  obtain ⟨t299, A270, H⟩ := H
                  replace H : (if t299 = 0 then (samphirelaw19_ChooseParts.l0 kj3 y293 y296 l2 (l2.length : Int) 0) else ((choose_Check.f kj3 y296).bind fun t300 => (if t300 = 1 then ((samphirelaw19_awake.f kj3).bind fun t301 => (some t301)) else (some false)))) = some r := H
                  have A27 := Aside0.mk A270
                  clear A270
                  by_cases c28 : t299 = 0
                  · rw [if_pos c28] at H
                    have c28b0 : (t299 == 0) = true := beq_iff_eq.mpr c28
                    have c28b1 : (t299 != 0) = false := bne_eq_false_iff_eq.mpr c28
                    clear c28
                    have H' := Aside0.mk H
                    clear H
                    try go_wp2
                    have n0_ := Aside0.mk (Kd.V_drew HO_1.out)
                    have n1_ := Aside0.mk (below_drew1 HB.out)
                    clear HO_1
                    clear HB
                    have HO_1 := n0_
                    have HB := n1_
                    clear n0_ n1_
                    have p21 : 0 ≤ ((ji17) : Int) := of_decide_eq_true (by first | (with_reducible assumption) | assumption)
                    have q21 : (ji17) < (a0.size : Int) := of_decide_eq_true (by first | (with_reducible assumption) | assumption)
                    have hx21 := bt_at a0 (ji17)
                    replace p21 := eq_true p21
                    replace q21 := eq_true q21
                    refine start_ (n := 15) (S := fun w' => True) (ds := []) #[false, false, false, false, false, false, false, false, false, false, false, false, false, false, false] (by kernel_rfl) rfl rfl trivial (fun hHeld => ?_); refine with_tabW samphirelaw19_ChooseParts.tab3 samphirelaw19_ChooseParts.bits3 (fun HT_ HW_ => ?_)
                    generalize wc.drew = w29 at HO_1 HB hHeld ⊢
                    refine pure_ (i := 0) (N := some 41) (v := ?_) (a' := ?_) #[true, false, false, false, false, false, false, false, false, false, false, false, false, false, false] rfl rfl (any_of HT_.out (by kernel_rfl)) (fun _ _ _ h => h) (Or.inl ⟨by rfl, ?_⟩) ?_ ?_
                    rotate_left
                    · intro w'
                      go_simp
                      with_reducible rfl
                    rotate_left
                    · simp only [Act.put, List.setIfInBounds_toArray, List.set_cons_zero, List.set_cons_succ, i64_w, i32_w]
                      rfl
                    refine pure_ (i := 1) (N := some 42) (v := ?_) (a' := ?_) #[true, true, false, false, false, false, false, false, false, false, false, false, false, false, false] rfl rfl (any_of HT_.out (by kernel_rfl)) (fun _ _ _ h => h) (Or.inl ⟨by rfl, ?_⟩) ?_ ?_
                    rotate_left
                    · intro w'
                      go_simp
                      with_reducible rfl
                    rotate_left
                    · simp only [Act.put, List.setIfInBounds_toArray, List.set_cons_zero, List.set_cons_succ, i64_w, i32_w]
                      rfl
                    refine pure_ (i := 2) (N := some 43) (v := ?_) (a' := ?_) #[true, true, true, false, false, false, false, false, false, false, false, false, false, false, false] rfl rfl (any_of HT_.out (by kernel_rfl)) (fun _ _ _ h => h) (Or.inl ⟨by rfl, ?_⟩) ?_ ?_
                    rotate_left
                    · intro w'
                      go_simp
                      with_reducible rfl
                    rotate_left
                    · simp only [Act.put, List.setIfInBounds_toArray, List.set_cons_zero, List.set_cons_succ, i64_w, i32_w]
                      rfl
                    refine pure_ (i := 3) (N := some 44) (v := ?_) (a' := ?_) #[true, true, true, true, false, false, false, false, false, false, false, false, false, false, false] rfl rfl (any_of HT_.out (by kernel_rfl)) (fun _ _ _ h => h) (Or.inl ⟨by rfl, ?_⟩) ?_ ?_
                    rotate_left
                    · intro w'
                      go_simp
                      with_reducible rfl
                    rotate_left
                    · simp only [Act.put, List.setIfInBounds_toArray, List.set_cons_zero, List.set_cons_succ, i64_w, i32_w]
                      rfl
                    refine pure_ (i := 4) (N := some 45) (v := ?_) (a' := ?_) #[true, true, true, true, true, false, false, false, false, false, false, false, false, false, false] rfl rfl (any_of HT_.out (by kernel_rfl)) (fun _ _ _ h => h) (Or.inl ⟨by rfl, ?_⟩) ?_ ?_
                    rotate_left
                    · intro w'
                      go_simp
                      with_reducible rfl
                    rotate_left
                    · simp only [Act.put, List.setIfInBounds_toArray, List.set_cons_zero, List.set_cons_succ, i64_w, i32_w]
                      rfl
                    refine pure_ (i := 5) (N := some 46) (v := ?_) (a' := ?_) #[true, true, true, true, true, true, false, false, false, false, false, false, false, false, false] rfl rfl (any_of HT_.out (by kernel_rfl)) (fun _ _ _ h => h) (Or.inl ⟨by rfl, ?_⟩) ?_ ?_
                    rotate_left
                    · intro w'
                      go_simp
                      with_reducible rfl
                    rotate_left
                    · simp only [Act.put, List.setIfInBounds_toArray, List.set_cons_zero, List.set_cons_succ, i64_w, i32_w]
                      rfl
                    refine pure_ (i := 6) (N := some 47) (v := ?_) (a' := ?_) #[true, true, true, true, true, true, true, false, false, false, false, false, false, false, false] rfl rfl (any_of HT_.out (by kernel_rfl)) (fun _ _ _ h => h) (Or.inl ⟨by rfl, ?_⟩) ?_ ?_
                    rotate_left
                    · intro w'
                      go_simp
                      with_reducible rfl
                    rotate_left
                    · simp only [Act.put, List.setIfInBounds_toArray, List.set_cons_zero, List.set_cons_succ, i64_w, i32_w]
                      rfl
                    refine pure_ (i := 7) (N := some 48) (v := ?_) (a' := ?_) #[true, true, true, true, true, true, true, true, false, false, false, false, false, false, false] rfl rfl (any_of HT_.out (by kernel_rfl)) (fun _ _ _ h => h) (Or.inl ⟨by rfl, ?_⟩) ?_ ?_
                    rotate_left
                    · intro w'
                      go_simp
                      with_reducible rfl
                    rotate_left
                    · simp only [Act.put, List.setIfInBounds_toArray, List.set_cons_zero, List.set_cons_succ, i64_w, i32_w]
                      rfl
                    refine pure_ (i := 8) (N := some 49) (v := ?_) (a' := ?_) #[true, true, true, true, true, true, true, true, true, false, false, false, false, false, false] rfl rfl (any_of HT_.out (by kernel_rfl)) (fun _ _ _ h => h) (Or.inl ⟨by rfl, ?_⟩) ?_ ?_
                    rotate_left
                    · intro w'
                      go_simp
                      with_reducible rfl
                    rotate_left
                    · simp only [Act.put, List.setIfInBounds_toArray, List.set_cons_zero, List.set_cons_succ, i64_w, i32_w]
                      rfl
                    refine take_ (i := 9) (N := some 50) (v := ?_) (a' := ?_) #[true, true, true, true, true, true, true, true, true, true, false, false, false, false, false] rfl rfl (take_ofW HT_.out HW_.out (by kernel_rfl)) (fun _ _ _ h => h) (Or.inl ⟨by rfl, ?_⟩) hHeld ?_ ?_
                    rotate_left
                    · intro w' _
                      go_simp
                      with_reducible rfl
                    rotate_left
                    · simp only [Act.put, List.setIfInBounds_toArray, List.set_cons_zero, List.set_cons_succ, i64_w, i32_w]
                      rfl
                    refine pure_ (i := 10) (N := some 51) (v := ?_) (a' := ?_) #[true, true, true, true, true, true, true, true, true, true, true, false, false, false, false] rfl rfl (any_of HT_.out (by kernel_rfl)) (fun _ _ _ h => h) (Or.inl ⟨by rfl, ?_⟩) ?_ ?_
                    rotate_left
                    · intro w'
                      go_simp
                      with_reducible rfl
                    rotate_left
                    · simp only [Act.put, List.setIfInBounds_toArray, List.set_cons_zero, List.set_cons_succ, i64_w, i32_w]
                      rfl
                    refine one_ (i := 11) (N := some 52) #[true, true, true, true, true, true, true, true, true, true, true, true, false, false, false] rfl rfl (one_of HT_.out (by kernel_rfl)) (by decide) (fun K hK => ?_)
                    refine Kd.R_lit_step (Kd.int .u8) _ 5 ?hg (N := 52) ?hd (xs := ([((bt a0 (ji17)) + 1) % 256] : List Int)) (inner := [.int .u8 (((bt a0 (ji17)) + 1) % 256)]) (ok := fun _ => True) (okp := fun _ => True) ?hr ?hp (fun _ hk => hk) trivial (Below.refl _ _) (Nat.le_refl _) (by simp) ?_; (case hd => rfl); (case hg => rfl); (case hr => first | (go_simp; done) | (go_simp; rfl)); (case hp => exact (Reps.one (show Kd.M (Kd.int .u8) _ _ _ (((bt a0 (ji17)) + 1) % 256) [.int .u8 (((bt a0 (ji17)) + 1) % 256)] from rfl) (Reps.none _ _)))
                    intro v278 w30 ho31 hb hg_ hnew_
                    clear hg_ hnew_
                    (first | rw [← Ny277.out] at ho31 | (simp only [Int.reduceToNat] at ho31; rw [← Ny277.out] at ho31))
                    have n0_ := Aside0.mk (Kd.V_elder' (by (with_reducible repeat (first | apply Kd.V_alloc | apply Kd.V_drewN | apply Kd.V_drew)); exact HO_1.out) (Kd.R_base ho31) hb)
                    have n1_ := Aside0.mk (Kd.R_lower (Kd.R_newM (M := fun k_ => (w.heap.size ≤ k_)) ho31 (below_size (by repeat (first | (with_reducible first | exact HB.out | apply below_alloc | apply pw_below_drewN | apply below_drew1) | exact HB.out))) (fun k_ h_ => h_)) (below_size (by repeat (first | (with_reducible first | exact HB.out | apply below_alloc | apply pw_below_drewN | apply below_drew1) | exact HB.out))))
                    have n2_ := Aside0.mk (below_step (by repeat (first | (with_reducible first | exact HB.out | apply below_alloc | apply pw_below_drewN | apply below_drew1) | exact HB.out)) hb)
                    clear HO_1
                    clear HB
                    have HO_1 := n0_
                    have HO279 := n1_
                    have HB := n2_
                    clear n0_ n1_ n2_
                    clear hb ho31
                    refine hK.out _ _ trivial (fun hHeld => ?_)
                    clear hK K
                    refine norm_ (a' := ?_) ?_ ?_
                    rotate_left
                    · show Act.put _ (some 52) _ = _
                      simp only [Act.put, List.setIfInBounds_toArray, List.set_cons_zero, List.set_cons_succ, i64_w, i32_w]
                      rfl
                    refine one_ (i := 12) (N := some 53) #[true, true, true, true, true, true, true, true, true, true, true, true, true, false, false] rfl rfl (one_of HT_.out (by kernel_rfl)) (by decide) (fun K hK => ?_)
                    have hcv32 := own_string (P := Try.prog) Try.underlying40 Try.underlying5 Try.underlying9 (Kd.own_of_R HO279.out)
                    refine value_ (w1 := ?_) (v := ?_) (by rfl) rfl ?_ ?_
                    rotate_left 2
                    · go_simp
                      constructor
                      · rfl
                      · rfl
                    clear hcv32
                    refine hK.out _ _ trivial (fun hHeld => ?_)
                    clear hK K
                    refine norm_ (a' := ?_) ?_ ?_
                    rotate_left
                    · show Act.put _ (some 53) _ = _
                      simp only [Act.put, List.setIfInBounds_toArray, List.set_cons_zero, List.set_cons_succ, i64_w, i32_w]
                      rfl
                    refine pure_ (i := 13) (N := some 54) (v := ?_) (a' := ?_) #[true, true, true, true, true, true, true, true, true, true, true, true, true, true, false] rfl rfl (any_of HT_.out (by kernel_rfl)) (fun _ _ _ h => h) (Or.inl ⟨by rfl, ?_⟩) ?_ ?_
                    rotate_left
                    · intro w'
                      go_simp
                      with_reducible rfl
                    rotate_left
                    · simp only [Act.put, List.setIfInBounds_toArray, List.set_cons_zero, List.set_cons_succ, i64_w, i32_w]
                      rfl
                    refine pure_ (i := 14) (N := some 7) (v := ?_) (a' := ?_) #[true, true, true, true, true, true, true, true, true, true, true, true, true, true, true] rfl rfl (any_of HT_.out (by kernel_rfl)) (fun _ _ _ h => h) (Or.inl ⟨by rfl, ?_⟩) ?_ ?_
                    rotate_left
                    · intro w'
                      go_simp
                      with_reducible rfl
                    rotate_left
                    · simp only [Act.put, List.setIfInBounds_toArray, List.set_cons_zero, List.set_cons_succ, i64_w, i32_w]
                      rfl
                    refine done_ (done_of HT_.out (by kernel_rfl)) ?_
                    try go_wp2_with (first | ((with_reducible refine gate_dst (N := 57) rfl ?_); (try (refine gate_guard (by rfl) ?_; dsimp only)); refine Kd.N_lit k42 _ 42 ?hg (N' := 57) ?hd (xs := ([(⟨1, a0, (⟨#[]⟩ : ByteArray), ([] : List ByteArray)⟩ : S42)] : List (S42))) (inner := [.int .i64 1, .string a0, .string (⟨#[]⟩ : ByteArray), .slice none 0 0]) (ok := (fun k_ => (P1_ k_ ∨ w.heap.size ≤ k_) ∧ some k_ ≠ (v278 : Value).ownBlock)) (okp := (fun k_ => (P1_ k_ ∨ w.heap.size ≤ k_) ∧ some k_ ≠ (v278 : Value).ownBlock)) ?hr ?hp (fun _ hk => hk) ((show ∀ k_, w30.heap.size ≤ k_ → (fun k_ => (P1_ k_ ∨ w.heap.size ≤ k_) ∧ some k_ ≠ (v278 : Value).ownBlock) k_ from fun k_ hk => ⟨(.inr (Nat.le_trans (below_size (by repeat (first | (with_reducible first | exact HB.out | apply below_alloc | apply pw_below_drewN | apply below_drew1) | exact HB.out))) hk)), Kd.fresh' (Kd.R_lt (by (with_reducible repeat (first | apply Kd.R_alloc | apply Kd.R_drewN | apply Kd.R_drew)); exact HO279.out)) k_ hk⟩) _ (Nat.le_refl _)) (Below.refl _ _) (Nat.le_refl _) (by simp) ?_; (case hd => rfl); (case hg => rfl); (case hr => first | (go_simp; done) | (go_simp; rfl)); (case hp => exact (Reps.c4 (show Kd.FK k42 _ _ (⟨1, a0, (⟨#[]⟩ : ByteArray), ([] : List ByteArray)⟩ : S42) [.int .i64 1, .string a0, .string (⟨#[]⟩ : ByteArray), .slice none 0 0] from (k42_mkF _ _ (⟨1, a0, (⟨#[]⟩ : ByteArray), ([] : List ByteArray)⟩ : S42) (Nat.le_refl _) (Kd.F_nil _ _ _))) (Reps.none _ _))); intro v281 w33 ho34 hb hg_ hnew_; clear hg_ hnew_; (first | rw [← Ny280.out] at ho34 | (simp only [Int.reduceToNat] at ho34; rw [← Ny280.out] at ho34)); have n0_ := Aside0.mk (Kd.V_elder' (by (with_reducible repeat (first | apply Kd.V_alloc | apply Kd.V_drewN | apply Kd.V_drew)); exact HO_1.out) (Kd.N_base ho34) hb); have n1_ := Aside0.mk (Kd.R_below (by (with_reducible repeat (first | apply Kd.R_alloc | apply Kd.R_drewN | apply Kd.R_drew)); exact HO279.out) hb); have n2_ := Aside0.mk (Kd.N_lower ho34 (below_size (by repeat (first | (with_reducible first | exact HB.out | apply below_alloc | apply pw_below_drewN | apply below_drew1) | exact HB.out)))); have n3_ := Aside0.mk (below_step (by repeat (first | (with_reducible first | exact HB.out | apply below_alloc | apply pw_below_drewN | apply below_drew1) | exact HB.out)) hb); clear HO_1; clear HO279; clear HB; have HO_1 := n0_; have HO279 := n1_; have HO282 := n2_; have HB := n3_; clear n0_ n1_ n2_ n3_; clear hb ho34) | ((with_reducible refine gate_dst (N := 61) rfl ?_); (try (refine gate_guard (by rfl) ?_; dsimp only)); refine Kd.N_lit k42 _ 42 ?hg (N' := 61) ?hd (xs := ([(⟨2, a0, (a0.extract 0 ((ji17) : Int).toNat) ++ (strOfNums y277), ([] : List ByteArray)⟩ : S42)] : List (S42))) (inner := [.int .i64 2, .string a0, .string ((a0.extract 0 ((ji17) : Int).toNat) ++ (strOfNums y277)), .slice none 0 0]) (ok := (fun k_ => (P1_ k_ ∨ w.heap.size ≤ k_) ∧ some k_ ≠ (v278 : Value).ownBlock ∧ some k_ ≠ (v281 : Value).ownBlock)) (okp := (fun k_ => (P1_ k_ ∨ w.heap.size ≤ k_) ∧ some k_ ≠ (v278 : Value).ownBlock ∧ some k_ ≠ (v281 : Value).ownBlock)) ?hr ?hp (fun _ hk => hk) ((show ∀ k_, w33.heap.size ≤ k_ → (fun k_ => (P1_ k_ ∨ w.heap.size ≤ k_) ∧ some k_ ≠ (v278 : Value).ownBlock ∧ some k_ ≠ (v281 : Value).ownBlock) k_ from fun k_ hk => ⟨(.inr (Nat.le_trans (below_size (by repeat (first | (with_reducible first | exact HB.out | apply below_alloc | apply pw_below_drewN | apply below_drew1) | exact HB.out))) hk)), Kd.fresh' (Kd.R_lt (by (with_reducible repeat (first | apply Kd.R_alloc | apply Kd.R_drewN | apply Kd.R_drew)); exact HO279.out)) k_ hk, Kd.fresh' (Kd.N_lt (by (with_reducible repeat (first | apply Kd.N_alloc | apply Kd.N_drewN | apply Kd.N_drew)); exact HO282.out)) k_ hk⟩) _ (Nat.le_refl _)) (Below.refl _ _) (Nat.le_refl _) (by simp) ?_; (case hd => rfl); (case hg => rfl); (case hr => first | (go_simp; done) | (go_simp; rfl)); (case hp => exact (Reps.c4 (show Kd.FK k42 _ _ (⟨2, a0, (a0.extract 0 ((ji17) : Int).toNat) ++ (strOfNums y277), ([] : List ByteArray)⟩ : S42) [.int .i64 2, .string a0, .string ((a0.extract 0 ((ji17) : Int).toNat) ++ (strOfNums y277)), .slice none 0 0] from (k42_mkF _ _ (⟨2, a0, (a0.extract 0 ((ji17) : Int).toNat) ++ (strOfNums y277), ([] : List ByteArray)⟩ : S42) (Nat.le_refl _) (Kd.F_nil _ _ _))) (Reps.none _ _))); intro v284 w35 ho36 hb hg_ hnew_; clear hg_ hnew_; (first | rw [← Ny283.out] at ho36 | (simp only [Int.reduceToNat] at ho36; rw [← Ny283.out] at ho36)); have n0_ := Aside0.mk (Kd.V_elder' (by (with_reducible repeat (first | apply Kd.V_alloc | apply Kd.V_drewN | apply Kd.V_drew)); exact HO_1.out) (Kd.N_base ho36) hb); have n1_ := Aside0.mk (Kd.R_below (by (with_reducible repeat (first | apply Kd.R_alloc | apply Kd.R_drewN | apply Kd.R_drew)); exact HO279.out) hb); have n2_ := Aside0.mk (Kd.N_elder' (by (with_reducible repeat (first | apply Kd.N_alloc | apply Kd.N_drewN | apply Kd.N_drew)); exact HO282.out) (Kd.N_base ho36) hb); have n3_ := Aside0.mk (Kd.N_lower ho36 (below_size (by repeat (first | (with_reducible first | exact HB.out | apply below_alloc | apply pw_below_drewN | apply below_drew1) | exact HB.out)))); have n4_ := Aside0.mk (below_step (by repeat (first | (with_reducible first | exact HB.out | apply below_alloc | apply pw_below_drewN | apply below_drew1) | exact HB.out)) hb); clear HO_1; clear HO279; clear HO282; clear HB; have HO_1 := n0_; have HO279 := n1_; have HO282 := n2_; have HO285 := n3_; have HB := n4_; clear n0_ n1_ n2_ n3_ n4_; clear hb ho36; obtain ⟨Ao37, co37, eo37⟩ := Kd.N_slice HO282.out; subst eo37) | ((with_reducible refine gate_callee (f := 17) rfl ?_); refine goesL_ (some 64) rfl rfl Try.func17 (by kernel_rfl) rfl #[.slice Ao37 y280.length co37, .slice A2 l2.length c2] rfl (by (try simp only [List.map_toArray, List.map_cons, List.map_nil]); first | done | rfl | (simp only [List.length_drop, List.length_take]; rfl)) ?_; (with_reducible refine (choose_Keys.calls kj3 _ _ y280 _ _ l2 t286 _ ?side1 ?side2 ?side3 ?side4 A23.out).mono ?_); (case side1 => repeat (first | exact (Kd.N_reads' HO282.out).2.2 | (with_reducible refine Kd.C_alloc ?_ _) | (with_reducible refine Kd.C_drewN ?_ _) | (with_reducible refine Kd.C_drew ?_))); (case side2 => exact (Kd.N_reads' HO282.out).2.1); (case side3 => repeat (first | exact (Kd.C_below HR2.out HB.out) | (with_reducible refine Kd.C_alloc ?_ _) | (with_reducible refine Kd.C_drewN ?_ _) | (with_reducible refine Kd.C_drew ?_))); (case side4 => exact HC2.out); rintro e w38 ⟨v287, rfl, ho0, hb⟩; refine ⟨_, rfl, ?_⟩; have n0_ := Aside0.mk (Kd.V_elder' (by (with_reducible repeat (first | apply Kd.V_alloc | apply Kd.V_drewN | apply Kd.V_drew)); exact HO_1.out) (Kd.R_base ho0) hb); have n1_ := Aside0.mk (Kd.R_below (by (with_reducible repeat (first | apply Kd.R_alloc | apply Kd.R_drewN | apply Kd.R_drew)); exact HO279.out) hb); have n2_ := Aside0.mk (Kd.N_elder' (by (with_reducible repeat (first | apply Kd.N_alloc | apply Kd.N_drewN | apply Kd.N_drew)); exact HO282.out) (Kd.R_base ho0) hb); have n3_ := Aside0.mk (Kd.N_elder' (by (with_reducible repeat (first | apply Kd.N_alloc | apply Kd.N_drewN | apply Kd.N_drew)); exact HO285.out) (Kd.R_base ho0) hb); have n4_ := Aside0.mk (Kd.R_lower (Kd.R_newM (M := fun k_ => (w.heap.size ≤ k_)) ho0 (below_size (by repeat (first | (with_reducible first | exact HB.out | apply below_alloc | apply pw_below_drewN | apply below_drew1) | exact HB.out))) (fun k_ h_ => h_)) (below_size (by repeat (first | (with_reducible first | exact HB.out | apply below_alloc | apply pw_below_drewN | apply below_drew1) | exact HB.out)))); have n5_ := Aside0.mk (below_step (by repeat (first | (with_reducible first | exact HB.out | apply below_alloc | apply pw_below_drewN | apply below_drew1) | exact HB.out)) hb); clear HO_1; clear HO279; clear HO282; clear HO285; clear HB; have HO_1 := n0_; have HO279 := n1_; have HO282 := n2_; have HO285 := n3_; have HO288 := n4_; have HB := n5_; clear n0_ n1_ n2_ n3_ n4_ n5_; (try clear hb); (try clear hb2); (try clear hk); (try clear hi); (try clear ho0); obtain ⟨Ao39, co39, eo39⟩ := Kd.N_slice HO285.out; subst eo39) | ((with_reducible refine gate_callee (f := 17) rfl ?_); refine goesL_ (some 67) rfl rfl Try.func17 (by kernel_rfl) rfl #[.slice Ao39 y283.length co39, .slice A2 l2.length c2] rfl (by (try simp only [List.map_toArray, List.map_cons, List.map_nil]); first | done | rfl | (simp only [List.length_drop, List.length_take]; rfl)) ?_; (with_reducible refine (choose_Keys.calls kj3 _ _ y283 _ _ l2 t289 _ ?side1 ?side2 ?side3 ?side4 A24.out).mono ?_); (case side1 => repeat (first | exact (Kd.N_reads' HO285.out).2.2 | (with_reducible refine Kd.C_alloc ?_ _) | (with_reducible refine Kd.C_drewN ?_ _) | (with_reducible refine Kd.C_drew ?_))); (case side2 => exact (Kd.N_reads' HO285.out).2.1); (case side3 => repeat (first | exact (Kd.C_below HR2.out HB.out) | (with_reducible refine Kd.C_alloc ?_ _) | (with_reducible refine Kd.C_drewN ?_ _) | (with_reducible refine Kd.C_drew ?_))); (case side4 => exact HC2.out); rintro e w40 ⟨v290, rfl, ho0, hb⟩; refine ⟨_, rfl, ?_⟩; have n0_ := Aside0.mk (Kd.V_elder' (by (with_reducible repeat (first | apply Kd.V_alloc | apply Kd.V_drewN | apply Kd.V_drew)); exact HO_1.out) (Kd.R_base ho0) hb); have n1_ := Aside0.mk (Kd.R_below (by (with_reducible repeat (first | apply Kd.R_alloc | apply Kd.R_drewN | apply Kd.R_drew)); exact HO279.out) hb); have n2_ := Aside0.mk (Kd.N_elder' (by (with_reducible repeat (first | apply Kd.N_alloc | apply Kd.N_drewN | apply Kd.N_drew)); exact HO282.out) (Kd.R_base ho0) hb); have n3_ := Aside0.mk (Kd.N_elder' (by (with_reducible repeat (first | apply Kd.N_alloc | apply Kd.N_drewN | apply Kd.N_drew)); exact HO285.out) (Kd.R_base ho0) hb); have n4_ := Aside0.mk (Kd.R_elder' (by (with_reducible repeat (first | apply Kd.R_alloc | apply Kd.R_drewN | apply Kd.R_drew)); exact HO288.out) (Kd.R_base ho0) hb); have n5_ := Aside0.mk (Kd.R_lower (Kd.R_new' (Kd.R_newM (M := fun k_ => (w.heap.size ≤ k_)) ho0 (below_size (by repeat (first | (with_reducible first | exact HB.out | apply below_alloc | apply pw_below_drewN | apply below_drew1) | exact HB.out))) (fun k_ h_ => h_)) (Kd.R_lt (by (with_reducible repeat (first | apply Kd.R_alloc | apply Kd.R_drewN | apply Kd.R_drew)); exact HO288.out))) (below_size (by repeat (first | (with_reducible first | exact HB.out | apply below_alloc | apply pw_below_drewN | apply below_drew1) | exact HB.out)))); have n6_ := Aside0.mk (below_step (by repeat (first | (with_reducible first | exact HB.out | apply below_alloc | apply pw_below_drewN | apply below_drew1) | exact HB.out)) hb); clear HO_1; clear HO279; clear HO282; clear HO285; clear HO288; clear HB; have HO_1 := n0_; have HO279 := n1_; have HO282 := n2_; have HO285 := n3_; have HO288 := n4_; have HO291 := n5_; have HB := n6_; clear n0_ n1_ n2_ n3_ n4_ n5_ n6_; (try clear hb); (try clear hb2); (try clear hk); (try clear hi); (try clear ho0); obtain ⟨Ao41, co41, eo41⟩ := Kd.R_slice HO288.out; subst eo41; obtain ⟨Ao42, co42, eo42⟩ := Kd.R_slice HO291.out; subst eo42) | ((with_reducible refine gate_callee (f := 16) rfl ?_); refine goesL_ (some 68) rfl rfl Try.func16 (by kernel_rfl) rfl #[.slice Ao41 t286.length co41, .slice Ao42 t289.length co42] rfl (by (try simp only [List.map_toArray, List.map_cons, List.map_nil]); first | done | rfl | (simp only [List.length_drop, List.length_take]; rfl)) ?_; (with_reducible refine (samphireref16_Strings.calls kj3 _ _ t286 _ _ t289 true _ ?side1 ?side2 ?side3 ?side4 A25.out).mono ?_); (case side1 => repeat (first | exact (Kd.R_reads' HO288.out).2.2 | (with_reducible refine Kd.C_alloc ?_ _) | (with_reducible refine Kd.C_drewN ?_ _) | (with_reducible refine Kd.C_drew ?_))); (case side2 => exact (Kd.R_reads' HO288.out).2.1); (case side3 => repeat (first | exact (Kd.R_reads' HO291.out).2.2 | (with_reducible refine Kd.C_alloc ?_ _) | (with_reducible refine Kd.C_drewN ?_ _) | (with_reducible refine Kd.C_drew ?_))); (case side4 => exact (Kd.R_reads' HO291.out).2.1); rintro e w' ⟨rfl, ⟨nd, rfl⟩⟩; refine ⟨_, rfl, ?_⟩) | ((with_reducible refine gate_dst (N := 72) rfl ?_); (try (refine gate_guard (by rfl) ?_; dsimp only)); refine Kd.N_lit k42 _ 42 ?hg (N' := 72) ?hd (xs := ([(⟨3, (⟨#[]⟩ : ByteArray), (⟨#[]⟩ : ByteArray), l1⟩ : S42)] : List (S42))) (inner := [.int .i64 3, .string (⟨#[]⟩ : ByteArray), .string (⟨#[]⟩ : ByteArray), .slice A1 l1.length c1]) (ok := (fun k_ => (P1_ k_ ∨ w.heap.size ≤ k_) ∧ some k_ ≠ (v278 : Value).ownBlock ∧ some k_ ≠ (.slice Ao37 y280.length co37 : Value).ownBlock ∧ some k_ ≠ (.slice Ao39 y283.length co39 : Value).ownBlock ∧ some k_ ≠ (.slice Ao41 t286.length co41 : Value).ownBlock ∧ some k_ ≠ (.slice Ao42 t289.length co42 : Value).ownBlock)) (okp := (fun k_ => (P1_ k_ ∨ w.heap.size ≤ k_) ∧ some k_ ≠ (v278 : Value).ownBlock ∧ some k_ ≠ (.slice Ao37 y280.length co37 : Value).ownBlock ∧ some k_ ≠ (.slice Ao39 y283.length co39 : Value).ownBlock ∧ some k_ ≠ (.slice Ao41 t286.length co41 : Value).ownBlock ∧ some k_ ≠ (.slice Ao42 t289.length co42 : Value).ownBlock)) ?hr ?hp (fun _ hk => hk) ((show ∀ k_, w40.heap.size ≤ k_ → (fun k_ => (P1_ k_ ∨ w.heap.size ≤ k_) ∧ some k_ ≠ (v278 : Value).ownBlock ∧ some k_ ≠ (.slice Ao37 y280.length co37 : Value).ownBlock ∧ some k_ ≠ (.slice Ao39 y283.length co39 : Value).ownBlock ∧ some k_ ≠ (.slice Ao41 t286.length co41 : Value).ownBlock ∧ some k_ ≠ (.slice Ao42 t289.length co42 : Value).ownBlock) k_ from fun k_ hk => ⟨(.inr (Nat.le_trans (below_size (by repeat (first | (with_reducible first | exact HB.out | apply below_alloc | apply pw_below_drewN | apply below_drew1) | exact HB.out))) hk)), Kd.fresh' (Kd.R_lt (by (with_reducible repeat (first | apply Kd.R_alloc | apply Kd.R_drewN | apply Kd.R_drew)); exact HO279.out)) k_ hk, Kd.fresh' (Kd.N_lt (by (with_reducible repeat (first | apply Kd.N_alloc | apply Kd.N_drewN | apply Kd.N_drew)); exact HO282.out)) k_ hk, Kd.fresh' (Kd.N_lt (by (with_reducible repeat (first | apply Kd.N_alloc | apply Kd.N_drewN | apply Kd.N_drew)); exact HO285.out)) k_ hk, Kd.fresh' (Kd.R_lt (by (with_reducible repeat (first | apply Kd.R_alloc | apply Kd.R_drewN | apply Kd.R_drew)); exact HO288.out)) k_ hk, Kd.fresh' (Kd.R_lt (by (with_reducible repeat (first | apply Kd.R_alloc | apply Kd.R_drewN | apply Kd.R_drew)); exact HO291.out)) k_ hk⟩) _ (Nat.le_refl _)) (Below.refl _ _) (Nat.le_refl _) (by simp) ?_; (case hd => rfl); (case hg => rfl); (case hr => first | (go_simp; done) | (go_simp; rfl)); (case hp => first | exact (Reps.c4 (show Kd.FK k42 _ _ (⟨3, (⟨#[]⟩ : ByteArray), (⟨#[]⟩ : ByteArray), l1⟩ : S42) [.int .i64 3, .string (⟨#[]⟩ : ByteArray), .string (⟨#[]⟩ : ByteArray), .slice A1 l1.length c1] from (k42_mkF _ _ (⟨3, (⟨#[]⟩ : ByteArray), (⟨#[]⟩ : ByteArray), l1⟩ : S42) (Kd.V_reads' (Kd.V_mono (ok' := (fun k_ => (P1_ k_ ∨ w.heap.size ≤ k_) ∧ some k_ ≠ (v278 : Value).ownBlock ∧ some k_ ≠ (.slice Ao37 y280.length co37 : Value).ownBlock ∧ some k_ ≠ (.slice Ao39 y283.length co39 : Value).ownBlock ∧ some k_ ≠ (.slice Ao41 t286.length co41 : Value).ownBlock ∧ some k_ ≠ (.slice Ao42 t289.length co42 : Value).ownBlock)) (HO_1.out) (fun k_ hk => ⟨hk.1.1.1.1.1, ⟨hk.1.1.1.1.2, ⟨hk.1.1.1.2, ⟨hk.1.1.2, ⟨hk.1.2, hk.2⟩⟩⟩⟩⟩))).2.1 (Kd.V_F (Kd.V_mono (ok' := (fun k_ => (P1_ k_ ∨ w.heap.size ≤ k_) ∧ some k_ ≠ (v278 : Value).ownBlock ∧ some k_ ≠ (.slice Ao37 y280.length co37 : Value).ownBlock ∧ some k_ ≠ (.slice Ao39 y283.length co39 : Value).ownBlock ∧ some k_ ≠ (.slice Ao41 t286.length co41 : Value).ownBlock ∧ some k_ ≠ (.slice Ao42 t289.length co42 : Value).ownBlock)) (HO_1.out) (fun k_ hk => ⟨hk.1.1.1.1.1, ⟨hk.1.1.1.1.2, ⟨hk.1.1.1.2, ⟨hk.1.1.2, ⟨hk.1.2, hk.2⟩⟩⟩⟩⟩))))) (Reps.none _ _)) | exact (Reps.c4 (show Kd.FK k42 _ _ (⟨3, (⟨#[]⟩ : ByteArray), (⟨#[]⟩ : ByteArray), l1⟩ : S42) [.int .i64 3, .string (⟨#[]⟩ : ByteArray), .string (⟨#[]⟩ : ByteArray), .slice A1 l1.length c1] from (k42_mkF _ _ (⟨3, (⟨#[]⟩ : ByteArray), (⟨#[]⟩ : ByteArray), l1⟩ : S42) (Kd.V_reads' (Kd.V_mono (ok' := (fun k_ => (P1_ k_ ∨ w.heap.size ≤ k_) ∧ some k_ ≠ (v278 : Value).ownBlock ∧ some k_ ≠ (.slice Ao37 y280.length co37 : Value).ownBlock ∧ some k_ ≠ (.slice Ao39 y283.length co39 : Value).ownBlock ∧ some k_ ≠ (.slice Ao41 t286.length co41 : Value).ownBlock ∧ some k_ ≠ (.slice Ao42 t289.length co42 : Value).ownBlock)) (HO_1.out) (fun k_ hk => ⟨hk.1.1.1.1.1, ⟨hk.1.1.1.1.2, ⟨hk.1.1.1.2, ⟨hk.1.1.2, ⟨hk.1.2, hk.2⟩⟩⟩⟩⟩))).2.1 (Kd.V_F (Kd.V_mono (ok' := (fun k_ => (P1_ k_ ∨ w.heap.size ≤ k_) ∧ some k_ ≠ (v278 : Value).ownBlock ∧ some k_ ≠ (.slice Ao37 y280.length co37 : Value).ownBlock ∧ some k_ ≠ (.slice Ao39 y283.length co39 : Value).ownBlock ∧ some k_ ≠ (.slice Ao41 t286.length co41 : Value).ownBlock ∧ some k_ ≠ (.slice Ao42 t289.length co42 : Value).ownBlock)) (Kd.V_drewN HO_1.out _) (fun k_ hk => ⟨hk.1.1.1.1.1, ⟨hk.1.1.1.1.2, ⟨hk.1.1.1.2, ⟨hk.1.1.2, ⟨hk.1.2, hk.2⟩⟩⟩⟩⟩))))) (Reps.none _ _))); intro v294 w43 ho44 hb hg_ hnew_; clear hg_ hnew_; (first | rw [← Ny293.out] at ho44 | (simp only [Int.reduceToNat] at ho44; rw [← Ny293.out] at ho44)); have n0_ := Aside0.mk (Kd.V_elder' (by (with_reducible repeat (first | apply Kd.V_alloc | apply Kd.V_drewN | apply Kd.V_drew)); exact HO_1.out) (Kd.N_base ho44) hb); have n1_ := Aside0.mk (Kd.R_below (by (with_reducible repeat (first | apply Kd.R_alloc | apply Kd.R_drewN | apply Kd.R_drew)); exact HO279.out) hb); have n2_ := Aside0.mk (Kd.N_elder' (by (with_reducible repeat (first | apply Kd.N_alloc | apply Kd.N_drewN | apply Kd.N_drew)); exact HO282.out) (Kd.N_base ho44) hb); have n3_ := Aside0.mk (Kd.N_elder' (by (with_reducible repeat (first | apply Kd.N_alloc | apply Kd.N_drewN | apply Kd.N_drew)); exact HO285.out) (Kd.N_base ho44) hb); have n4_ := Aside0.mk (Kd.R_below (by (with_reducible repeat (first | apply Kd.R_alloc | apply Kd.R_drewN | apply Kd.R_drew)); exact HO288.out) hb); have n5_ := Aside0.mk (Kd.R_below (by (with_reducible repeat (first | apply Kd.R_alloc | apply Kd.R_drewN | apply Kd.R_drew)); exact HO291.out) hb); have n6_ := Aside0.mk (Kd.N_lower ho44 (below_size (by repeat (first | (with_reducible first | exact HB.out | apply below_alloc | apply pw_below_drewN | apply below_drew1) | exact HB.out)))); have n7_ := Aside0.mk (below_step (by repeat (first | (with_reducible first | exact HB.out | apply below_alloc | apply pw_below_drewN | apply below_drew1) | exact HB.out)) hb); clear HO_1; clear HO279; clear HO282; clear HO285; clear HO288; clear HO291; clear HB; have HO_1 := n0_; have HO279 := n1_; have HO282 := n2_; have HO285 := n3_; have HO288 := n4_; have HO291 := n5_; have HO295 := n6_; have HB := n7_; clear n0_ n1_ n2_ n3_ n4_ n5_ n6_ n7_; clear hb ho44) | ((with_reducible refine gate_dst (N := 75) rfl ?_); (try (refine gate_guard (by rfl) ?_; dsimp only)); refine Kd.N_lit k42 _ 42 ?hg (N' := 75) ?hd (xs := ([(⟨4, (⟨#[]⟩ : ByteArray), (⟨#[]⟩ : ByteArray), l1⟩ : S42)] : List (S42))) (inner := [.int .i64 4, .string (⟨#[]⟩ : ByteArray), .string (⟨#[]⟩ : ByteArray), .slice A1 l1.length c1]) (ok := (fun k_ => (P1_ k_ ∨ w.heap.size ≤ k_) ∧ some k_ ≠ (v278 : Value).ownBlock ∧ some k_ ≠ (.slice Ao37 y280.length co37 : Value).ownBlock ∧ some k_ ≠ (.slice Ao39 y283.length co39 : Value).ownBlock ∧ some k_ ≠ (.slice Ao41 t286.length co41 : Value).ownBlock ∧ some k_ ≠ (.slice Ao42 t289.length co42 : Value).ownBlock ∧ some k_ ≠ (v294 : Value).ownBlock)) (okp := (fun k_ => (P1_ k_ ∨ w.heap.size ≤ k_) ∧ some k_ ≠ (v278 : Value).ownBlock ∧ some k_ ≠ (.slice Ao37 y280.length co37 : Value).ownBlock ∧ some k_ ≠ (.slice Ao39 y283.length co39 : Value).ownBlock ∧ some k_ ≠ (.slice Ao41 t286.length co41 : Value).ownBlock ∧ some k_ ≠ (.slice Ao42 t289.length co42 : Value).ownBlock ∧ some k_ ≠ (v294 : Value).ownBlock)) ?hr ?hp (fun _ hk => hk) ((show ∀ k_, w43.heap.size ≤ k_ → (fun k_ => (P1_ k_ ∨ w.heap.size ≤ k_) ∧ some k_ ≠ (v278 : Value).ownBlock ∧ some k_ ≠ (.slice Ao37 y280.length co37 : Value).ownBlock ∧ some k_ ≠ (.slice Ao39 y283.length co39 : Value).ownBlock ∧ some k_ ≠ (.slice Ao41 t286.length co41 : Value).ownBlock ∧ some k_ ≠ (.slice Ao42 t289.length co42 : Value).ownBlock ∧ some k_ ≠ (v294 : Value).ownBlock) k_ from fun k_ hk => ⟨(.inr (Nat.le_trans (below_size (by repeat (first | (with_reducible first | exact HB.out | apply below_alloc | apply pw_below_drewN | apply below_drew1) | exact HB.out))) hk)), Kd.fresh' (Kd.R_lt (by (with_reducible repeat (first | apply Kd.R_alloc | apply Kd.R_drewN | apply Kd.R_drew)); exact HO279.out)) k_ hk, Kd.fresh' (Kd.N_lt (by (with_reducible repeat (first | apply Kd.N_alloc | apply Kd.N_drewN | apply Kd.N_drew)); exact HO282.out)) k_ hk, Kd.fresh' (Kd.N_lt (by (with_reducible repeat (first | apply Kd.N_alloc | apply Kd.N_drewN | apply Kd.N_drew)); exact HO285.out)) k_ hk, Kd.fresh' (Kd.R_lt (by (with_reducible repeat (first | apply Kd.R_alloc | apply Kd.R_drewN | apply Kd.R_drew)); exact HO288.out)) k_ hk, Kd.fresh' (Kd.R_lt (by (with_reducible repeat (first | apply Kd.R_alloc | apply Kd.R_drewN | apply Kd.R_drew)); exact HO291.out)) k_ hk, Kd.fresh' (Kd.N_lt (by (with_reducible repeat (first | apply Kd.N_alloc | apply Kd.N_drewN | apply Kd.N_drew)); exact HO295.out)) k_ hk⟩) _ (Nat.le_refl _)) (Below.refl _ _) (Nat.le_refl _) (by simp) ?_; (case hd => rfl); (case hg => rfl); (case hr => first | (go_simp; done) | (go_simp; rfl)); (case hp => first | exact (Reps.c4 (show Kd.FK k42 _ _ (⟨4, (⟨#[]⟩ : ByteArray), (⟨#[]⟩ : ByteArray), l1⟩ : S42) [.int .i64 4, .string (⟨#[]⟩ : ByteArray), .string (⟨#[]⟩ : ByteArray), .slice A1 l1.length c1] from (k42_mkF _ _ (⟨4, (⟨#[]⟩ : ByteArray), (⟨#[]⟩ : ByteArray), l1⟩ : S42) (Kd.V_reads' (Kd.V_mono (ok' := (fun k_ => (P1_ k_ ∨ w.heap.size ≤ k_) ∧ some k_ ≠ (v278 : Value).ownBlock ∧ some k_ ≠ (.slice Ao37 y280.length co37 : Value).ownBlock ∧ some k_ ≠ (.slice Ao39 y283.length co39 : Value).ownBlock ∧ some k_ ≠ (.slice Ao41 t286.length co41 : Value).ownBlock ∧ some k_ ≠ (.slice Ao42 t289.length co42 : Value).ownBlock ∧ some k_ ≠ (v294 : Value).ownBlock)) (HO_1.out) (fun k_ hk => ⟨hk.1.1.1.1.1.1, ⟨hk.1.1.1.1.1.2, ⟨hk.1.1.1.1.2, ⟨hk.1.1.1.2, ⟨hk.1.1.2, ⟨hk.1.2, hk.2⟩⟩⟩⟩⟩⟩))).2.1 (Kd.V_F (Kd.V_mono (ok' := (fun k_ => (P1_ k_ ∨ w.heap.size ≤ k_) ∧ some k_ ≠ (v278 : Value).ownBlock ∧ some k_ ≠ (.slice Ao37 y280.length co37 : Value).ownBlock ∧ some k_ ≠ (.slice Ao39 y283.length co39 : Value).ownBlock ∧ some k_ ≠ (.slice Ao41 t286.length co41 : Value).ownBlock ∧ some k_ ≠ (.slice Ao42 t289.length co42 : Value).ownBlock ∧ some k_ ≠ (v294 : Value).ownBlock)) (HO_1.out) (fun k_ hk => ⟨hk.1.1.1.1.1.1, ⟨hk.1.1.1.1.1.2, ⟨hk.1.1.1.1.2, ⟨hk.1.1.1.2, ⟨hk.1.1.2, ⟨hk.1.2, hk.2⟩⟩⟩⟩⟩⟩))))) (Reps.none _ _)) | exact (Reps.c4 (show Kd.FK k42 _ _ (⟨4, (⟨#[]⟩ : ByteArray), (⟨#[]⟩ : ByteArray), l1⟩ : S42) [.int .i64 4, .string (⟨#[]⟩ : ByteArray), .string (⟨#[]⟩ : ByteArray), .slice A1 l1.length c1] from (k42_mkF _ _ (⟨4, (⟨#[]⟩ : ByteArray), (⟨#[]⟩ : ByteArray), l1⟩ : S42) (Kd.V_reads' (Kd.V_mono (ok' := (fun k_ => (P1_ k_ ∨ w.heap.size ≤ k_) ∧ some k_ ≠ (v278 : Value).ownBlock ∧ some k_ ≠ (.slice Ao37 y280.length co37 : Value).ownBlock ∧ some k_ ≠ (.slice Ao39 y283.length co39 : Value).ownBlock ∧ some k_ ≠ (.slice Ao41 t286.length co41 : Value).ownBlock ∧ some k_ ≠ (.slice Ao42 t289.length co42 : Value).ownBlock ∧ some k_ ≠ (v294 : Value).ownBlock)) (HO_1.out) (fun k_ hk => ⟨hk.1.1.1.1.1.1, ⟨hk.1.1.1.1.1.2, ⟨hk.1.1.1.1.2, ⟨hk.1.1.1.2, ⟨hk.1.1.2, ⟨hk.1.2, hk.2⟩⟩⟩⟩⟩⟩))).2.1 (Kd.V_F (Kd.V_mono (ok' := (fun k_ => (P1_ k_ ∨ w.heap.size ≤ k_) ∧ some k_ ≠ (v278 : Value).ownBlock ∧ some k_ ≠ (.slice Ao37 y280.length co37 : Value).ownBlock ∧ some k_ ≠ (.slice Ao39 y283.length co39 : Value).ownBlock ∧ some k_ ≠ (.slice Ao41 t286.length co41 : Value).ownBlock ∧ some k_ ≠ (.slice Ao42 t289.length co42 : Value).ownBlock ∧ some k_ ≠ (v294 : Value).ownBlock)) (Kd.V_drewN HO_1.out _) (fun k_ hk => ⟨hk.1.1.1.1.1.1, ⟨hk.1.1.1.1.1.2, ⟨hk.1.1.1.1.2, ⟨hk.1.1.1.2, ⟨hk.1.1.2, ⟨hk.1.2, hk.2⟩⟩⟩⟩⟩⟩))))) (Reps.none _ _))); intro v297 w45 ho46 hb hg_ hnew_; clear hg_ hnew_; (first | rw [← Ny296.out] at ho46 | (simp only [Int.reduceToNat] at ho46; rw [← Ny296.out] at ho46)); have n0_ := Aside0.mk (Kd.V_elder' (by (with_reducible repeat (first | apply Kd.V_alloc | apply Kd.V_drewN | apply Kd.V_drew)); exact HO_1.out) (Kd.N_base ho46) hb); have n1_ := Aside0.mk (Kd.R_below (by (with_reducible repeat (first | apply Kd.R_alloc | apply Kd.R_drewN | apply Kd.R_drew)); exact HO279.out) hb); have n2_ := Aside0.mk (Kd.N_elder' (by (with_reducible repeat (first | apply Kd.N_alloc | apply Kd.N_drewN | apply Kd.N_drew)); exact HO282.out) (Kd.N_base ho46) hb); have n3_ := Aside0.mk (Kd.N_elder' (by (with_reducible repeat (first | apply Kd.N_alloc | apply Kd.N_drewN | apply Kd.N_drew)); exact HO285.out) (Kd.N_base ho46) hb); have n4_ := Aside0.mk (Kd.R_below (by (with_reducible repeat (first | apply Kd.R_alloc | apply Kd.R_drewN | apply Kd.R_drew)); exact HO288.out) hb); have n5_ := Aside0.mk (Kd.R_below (by (with_reducible repeat (first | apply Kd.R_alloc | apply Kd.R_drewN | apply Kd.R_drew)); exact HO291.out) hb); have n6_ := Aside0.mk (Kd.N_elder' (by (with_reducible repeat (first | apply Kd.N_alloc | apply Kd.N_drewN | apply Kd.N_drew)); exact HO295.out) (Kd.N_base ho46) hb); have n7_ := Aside0.mk (Kd.N_lower ho46 (below_size (by repeat (first | (with_reducible first | exact HB.out | apply below_alloc | apply pw_below_drewN | apply below_drew1) | exact HB.out)))); have n8_ := Aside0.mk (below_step (by repeat (first | (with_reducible first | exact HB.out | apply below_alloc | apply pw_below_drewN | apply below_drew1) | exact HB.out)) hb); clear HO_1; clear HO279; clear HO282; clear HO285; clear HO288; clear HO291; clear HO295; clear HB; have HO_1 := n0_; have HO279 := n1_; have HO282 := n2_; have HO285 := n3_; have HO288 := n4_; have HO291 := n5_; have HO295 := n6_; have HO298 := n7_; have HB := n8_; clear n0_ n1_ n2_ n3_ n4_ n5_ n6_ n7_ n8_; clear hb ho46; obtain ⟨Ao47, co47, eo47⟩ := Kd.N_slice HO295.out; subst eo47) | ((with_reducible refine gate_callee (f := 14) rfl ?_); refine goesL_ (some 77) rfl rfl Try.func14 (by kernel_rfl) rfl #[.slice Ao47 y293.length co47] rfl (by (try simp only [List.map_toArray, List.map_cons, List.map_nil]); first | done | rfl | (simp only [List.length_drop, List.length_take]; rfl)) ?_; (with_reducible refine (choose_Check.calls kj3 _ _ y293 t299 _ ?side1 ?side2 A27.out).mono ?_); (case side1 => repeat (first | exact (Kd.N_reads' HO295.out).2.2 | (with_reducible refine Kd.C_alloc ?_ _) | (with_reducible refine Kd.C_drewN ?_ _) | (with_reducible refine Kd.C_drew ?_))); (case side2 => exact (Kd.N_reads' HO295.out).2.1); rintro e w48 ⟨rfl, hb⟩; refine ⟨_, rfl, ?_⟩; have n0_ := Aside0.mk (Kd.V_below (by (with_reducible repeat (first | apply Kd.V_alloc | apply Kd.V_drewN | apply Kd.V_drew)); exact HO_1.out) hb); have n1_ := Aside0.mk (Kd.R_below (by (with_reducible repeat (first | apply Kd.R_alloc | apply Kd.R_drewN | apply Kd.R_drew)); exact HO279.out) hb); have n2_ := Aside0.mk (Kd.N_below (by (with_reducible repeat (first | apply Kd.N_alloc | apply Kd.N_drewN | apply Kd.N_drew)); exact HO282.out) hb); have n3_ := Aside0.mk (Kd.N_below (by (with_reducible repeat (first | apply Kd.N_alloc | apply Kd.N_drewN | apply Kd.N_drew)); exact HO285.out) hb); have n4_ := Aside0.mk (Kd.R_below (by (with_reducible repeat (first | apply Kd.R_alloc | apply Kd.R_drewN | apply Kd.R_drew)); exact HO288.out) hb); have n5_ := Aside0.mk (Kd.R_below (by (with_reducible repeat (first | apply Kd.R_alloc | apply Kd.R_drewN | apply Kd.R_drew)); exact HO291.out) hb); have n6_ := Aside0.mk (Kd.N_below (by (with_reducible repeat (first | apply Kd.N_alloc | apply Kd.N_drewN | apply Kd.N_drew)); exact HO295.out) hb); have n7_ := Aside0.mk (Kd.N_below (by (with_reducible repeat (first | apply Kd.N_alloc | apply Kd.N_drewN | apply Kd.N_drew)); exact HO298.out) hb); have n8_ := Aside0.mk (below_step (by repeat (first | (with_reducible first | exact HB.out | apply below_alloc | apply pw_below_drewN | apply below_drew1) | exact HB.out)) hb); clear HO_1; clear HO279; clear HO282; clear HO285; clear HO288; clear HO291; clear HO295; clear HO298; clear HB; have HO_1 := n0_; have HO279 := n1_; have HO282 := n2_; have HO285 := n3_; have HO288 := n4_; have HO291 := n5_; have HO295 := n6_; have HO298 := n7_; have HB := n8_; clear n0_ n1_ n2_ n3_ n4_ n5_ n6_ n7_ n8_; (try clear hb); (try clear hb2); (try clear hk); (try clear hi)))
                    go_loopg [87] kj3 (fun kq v87 w' => ∃ (x87_2 : Int), v87 = .int .i64 x87_2 ∧ Aside0 (samphirelaw19_ChooseParts.l0 kq y293 y296 l2 (l2.length : Int) x87_2 = some r) ∧ Aside0 (kq ≤ kj3) ∧ Aside0 (Kd.N k42 42 w' w.heap.size (fun k_ => (P1_ k_ ∨ w.heap.size ≤ k_) ∧ some k_ ≠ (v297 : Value).ownBlock) (.slice Ao47 y293.length co47) y293) ∧ Aside0 (Kd.N k42 42 w' w.heap.size (fun k_ => (P1_ k_ ∨ w.heap.size ≤ k_) ∧ some k_ ≠ ((.slice Ao47 y293.length co47) : Value).ownBlock) v297 y296) ∧ Aside0 (Below w.heap.size w w'))
                    case atStart => exact ⟨(0), (by first | rfl | (simp; done) | (simp [*]; done)), H', ⟨Nat.le_refl _⟩, ⟨by (with_reducible repeat (first | apply Kd.N_alloc | apply Kd.N_drewN | apply Kd.N_drew)); exact Kd.N_mono HO295.out (fun _ hk => ⟨hk.1.1, hk.2⟩)⟩, ⟨by (with_reducible repeat (first | apply Kd.N_alloc | apply Kd.N_drewN | apply Kd.N_drew)); exact Kd.N_mono HO298.out (fun _ hk => ⟨hk.1, hk.2.2.2.2.2.2⟩)⟩, ⟨by repeat (first | (with_reducible first | exact HB.out | apply below_alloc | apply pw_below_drewN | apply below_drew1) | exact HB.out)⟩⟩
                    case round =>
                      clear H'
                      try clear c1
                      try clear p1
                      try clear q1
                      try clear hx1
                      try clear c2
                      try clear p2
                      try clear q2
                      try clear hx2
                      try clear hcv3
                      try clear c4
                      try clear c5
                      try clear c5b0
                      try clear c5b1
                      try clear c6
                      try clear c6b0
                      try clear c6b1
                      try clear p6
                      try clear c8
                      try clear c8b0
                      try clear c9
                      try clear c9b0
                      try clear p10
                      try clear q10
                      try clear hx10
                      try clear c11
                      try clear c11b0
                      try clear c11b1
                      try clear c12
                      try clear c12b0
                      try clear c12b1
                      try clear c14
                      try clear c16
                      try clear c17
                      try clear c18
                      try clear c18b0
                      try clear c18b1
                      try clear c19
                      try clear c19b0
                      try clear c19b1
                      try clear c20
                      try clear c20b0
                      try clear p21
                      try clear q21
                      try clear hx21
                      try clear c22
                      try clear c22b0
                      try clear c22b1
                      try clear c22b2
                      try clear c26
                      try clear c28
                      try clear c28b0
                      try clear c28b1
                      try clear hcv32
                      try clear p1
                      try clear p10
                      try clear p2
                      try clear p21
                      try clear p6
                      try clear q1
                      try clear q10
                      try clear q21
                      obtain ⟨x87_2, rfl, HA, HK2, HO_10, HO_11, HB⟩ := hrel
                      cases gk with
                      | zero => exact absurd HA.out (by simp [samphirelaw19_ChooseParts.l0])
                      | succ k2 =>
                        have H := HA.out
                        clear HA
                        simp only [samphirelaw19_ChooseParts.l0] at H
                        by_cases c49 : x87_2 < (l2.length : Int)
                        · rw [if_pos c49] at H
                          have c49b0 : decide (x87_2 < (l2.length : Int)) = true := decide_eq_true c49
                          clear c49
                          by_cases c50 : 0 ≤ x87_2
                          · rw [if_pos c50] at H
                            have c50b0 : decide (0 ≤ x87_2) = true := decide_eq_true c50
                            clear c50
                            by_cases c51 : x87_2 < (l2.length : Int)
                            · rw [if_pos c51] at H
                              have c51b0 : decide (x87_2 < (l2.length : Int)) = true := decide_eq_true c51
                              clear c51
                              replace H := Option.bind_eq_some_iff.mp H
                              obtain ⟨t304, A520, H⟩ := H
                              replace H : ((choose_Meant.f k2 y296 (rdOf ByteArray.empty l2 x87_2)).bind fun t305 => (if (t304 == t305) = true then (some false) else (samphirelaw19_ChooseParts.l0 k2 y293 y296 l2 (l2.length : Int) (wrap64 (x87_2 + 1))))) = some r := H
                              have A52 := Aside0.mk A520
                              clear A520
                              replace H := Option.bind_eq_some_iff.mp H
                              obtain ⟨t305, A530, H⟩ := H
                              replace H : (if (t304 == t305) = true then (some false) else (samphirelaw19_ChooseParts.l0 k2 y293 y296 l2 (l2.length : Int) (wrap64 (x87_2 + 1)))) = some r := H
                              have A53 := Aside0.mk A530
                              clear A530
                              by_cases c54 : (t304 == t305) = true
                              · rw [if_pos c54] at H
                                have c54b0 : (t304 == t305) = true := c54
                                (try (have c54b1 : decide (t304 = t305) = true := by simpa using c54))
                                (try (have c54b2 : (t304 == t305) = true := by simpa using c54))
                                clear c54
                                obtain rfl := Option.some.inj H
                                have p303 : 0 ≤ (x87_2 : Int) := of_decide_eq_true (by first | (with_reducible assumption) | assumption)
                                have q303 : x87_2 < (l2.length : Int) := of_decide_eq_true (by first | (with_reducible assumption) | assumption)
                                obtain ⟨ad303, e303, hx303_0⟩ := Kd.at_string HR2.out x87_2 p303 q303
                                cases e303
                                replace hx303_0 := (HB.out.cell (World.block_lt_of_cell? w _ hx303_0)).trans hx303_0
                                replace p303 := eq_true p303
                                replace q303 := eq_true q303
                                go_wp2_with (first | ((with_reducible refine gate_callee (f := 12) rfl ?_); refine goesL_ (some 93) rfl rfl Try.func12 (by kernel_rfl) rfl #[.slice Ao47 y293.length co47, .string (rdOf ByteArray.empty l2 x87_2)] rfl (by (try simp only [List.map_toArray, List.map_cons, List.map_nil]); first | done | rfl | (simp only [List.length_drop, List.length_take]; rfl)) ?_; (with_reducible refine (choose_Meant.calls k2 _ _ y293 (rdOf ByteArray.empty l2 x87_2) t304 _ ?side1 ?side2 A52.out).mono ?_); (case side1 => repeat (first | exact (Kd.N_reads' HO_10.out).2.2 | (with_reducible refine Kd.C_alloc ?_ _) | (with_reducible refine Kd.C_drewN ?_ _) | (with_reducible refine Kd.C_drew ?_))); (case side2 => exact (Kd.N_reads' HO_10.out).2.1); rintro e w55 ⟨rfl, hb⟩; refine ⟨_, rfl, ?_⟩; have n0_ := Aside0.mk (Kd.N_below (by (with_reducible repeat (first | apply Kd.N_alloc | apply Kd.N_drewN | apply Kd.N_drew)); exact HO_10.out) hb); have n1_ := Aside0.mk (Kd.N_below (by (with_reducible repeat (first | apply Kd.N_alloc | apply Kd.N_drewN | apply Kd.N_drew)); exact HO_11.out) hb); have n2_ := Aside0.mk (below_step (by repeat (first | (with_reducible first | exact HB.out | apply below_alloc | apply pw_below_drewN | apply below_drew1) | exact HB.out)) hb); clear HO_10; clear HO_11; clear HB; have HO_10 := n0_; have HO_11 := n1_; have HB := n2_; clear n0_ n1_ n2_; (try clear hb); (try clear hb2); (try clear hk); (try clear hi); obtain ⟨Ao56, co56, eo56⟩ := Kd.N_slice HO_11.out; subst eo56) | ((with_reducible refine gate_callee (f := 12) rfl ?_); refine goesL_ (some 96) rfl rfl Try.func12 (by kernel_rfl) rfl #[.slice Ao56 y296.length co56, .string (rdOf ByteArray.empty l2 x87_2)] rfl (by (try simp only [List.map_toArray, List.map_cons, List.map_nil]); first | done | rfl | (simp only [List.length_drop, List.length_take]; rfl)) ?_; (with_reducible refine (choose_Meant.calls k2 _ _ y296 (rdOf ByteArray.empty l2 x87_2) t305 _ ?side1 ?side2 A53.out).mono ?_); (case side1 => repeat (first | exact (Kd.N_reads' HO_11.out).2.2 | (with_reducible refine Kd.C_alloc ?_ _) | (with_reducible refine Kd.C_drewN ?_ _) | (with_reducible refine Kd.C_drew ?_))); (case side2 => exact (Kd.N_reads' HO_11.out).2.1); rintro e w57 ⟨rfl, hb⟩; refine ⟨_, rfl, ?_⟩; have n0_ := Aside0.mk (Kd.N_below (by (with_reducible repeat (first | apply Kd.N_alloc | apply Kd.N_drewN | apply Kd.N_drew)); exact HO_10.out) hb); have n1_ := Aside0.mk (Kd.N_below (by (with_reducible repeat (first | apply Kd.N_alloc | apply Kd.N_drewN | apply Kd.N_drew)); exact HO_11.out) hb); have n2_ := Aside0.mk (below_step (by repeat (first | (with_reducible first | exact HB.out | apply below_alloc | apply pw_below_drewN | apply below_drew1) | exact HB.out)) hb); clear HO_10; clear HO_11; clear HB; have HO_10 := n0_; have HO_11 := n1_; have HB := n2_; clear n0_ n1_ n2_; (try clear hb); (try clear hb2); (try clear hk); (try clear hi)))
                                go_ret
                                exact ⟨by first | rfl | (simp [errW_none, errW_some] <;> rfl) | (simp only [← hji17]; first | rfl | (simp [errW_none, errW_some] <;> rfl)) | (simp [*, errW_none, errW_some] <;> rfl), by repeat (first | (with_reducible first | exact HB.out | apply below_alloc | apply pw_below_drewN | apply below_drew1) | exact HB.out)⟩
                              · rw [if_neg c54] at H
                                have c54b0 : (t304 == t305) = false := by simpa using c54
                                (try (have c54b1 : decide (t304 = t305) = false := by simpa using c54))
                                (try (have c54b2 : (t304 == t305) = false := by simpa using c54))
                                (try (have c54b3 : ¬ (t304 = t305) := by simpa using c54))
                                clear c54
                                have H' := Aside0.mk H
                                clear H
                                have p303 : 0 ≤ (x87_2 : Int) := of_decide_eq_true (by first | (with_reducible assumption) | assumption)
                                have q303 : x87_2 < (l2.length : Int) := of_decide_eq_true (by first | (with_reducible assumption) | assumption)
                                obtain ⟨ad303, e303, hx303_0⟩ := Kd.at_string HR2.out x87_2 p303 q303
                                cases e303
                                replace hx303_0 := (HB.out.cell (World.block_lt_of_cell? w _ hx303_0)).trans hx303_0
                                replace p303 := eq_true p303
                                replace q303 := eq_true q303
                                go_wp2_with (first | ((with_reducible refine gate_callee (f := 12) rfl ?_); refine goesL_ (some 93) rfl rfl Try.func12 (by kernel_rfl) rfl #[.slice Ao47 y293.length co47, .string (rdOf ByteArray.empty l2 x87_2)] rfl (by (try simp only [List.map_toArray, List.map_cons, List.map_nil]); first | done | rfl | (simp only [List.length_drop, List.length_take]; rfl)) ?_; (with_reducible refine (choose_Meant.calls k2 _ _ y293 (rdOf ByteArray.empty l2 x87_2) t304 _ ?side1 ?side2 A52.out).mono ?_); (case side1 => repeat (first | exact (Kd.N_reads' HO_10.out).2.2 | (with_reducible refine Kd.C_alloc ?_ _) | (with_reducible refine Kd.C_drewN ?_ _) | (with_reducible refine Kd.C_drew ?_))); (case side2 => exact (Kd.N_reads' HO_10.out).2.1); rintro e w58 ⟨rfl, hb⟩; refine ⟨_, rfl, ?_⟩; have n0_ := Aside0.mk (Kd.N_below (by (with_reducible repeat (first | apply Kd.N_alloc | apply Kd.N_drewN | apply Kd.N_drew)); exact HO_10.out) hb); have n1_ := Aside0.mk (Kd.N_below (by (with_reducible repeat (first | apply Kd.N_alloc | apply Kd.N_drewN | apply Kd.N_drew)); exact HO_11.out) hb); have n2_ := Aside0.mk (below_step (by repeat (first | (with_reducible first | exact HB.out | apply below_alloc | apply pw_below_drewN | apply below_drew1) | exact HB.out)) hb); clear HO_10; clear HO_11; clear HB; have HO_10 := n0_; have HO_11 := n1_; have HB := n2_; clear n0_ n1_ n2_; (try clear hb); (try clear hb2); (try clear hk); (try clear hi); obtain ⟨Ao59, co59, eo59⟩ := Kd.N_slice HO_11.out; subst eo59) | ((with_reducible refine gate_callee (f := 12) rfl ?_); refine goesL_ (some 96) rfl rfl Try.func12 (by kernel_rfl) rfl #[.slice Ao59 y296.length co59, .string (rdOf ByteArray.empty l2 x87_2)] rfl (by (try simp only [List.map_toArray, List.map_cons, List.map_nil]); first | done | rfl | (simp only [List.length_drop, List.length_take]; rfl)) ?_; (with_reducible refine (choose_Meant.calls k2 _ _ y296 (rdOf ByteArray.empty l2 x87_2) t305 _ ?side1 ?side2 A53.out).mono ?_); (case side1 => repeat (first | exact (Kd.N_reads' HO_11.out).2.2 | (with_reducible refine Kd.C_alloc ?_ _) | (with_reducible refine Kd.C_drewN ?_ _) | (with_reducible refine Kd.C_drew ?_))); (case side2 => exact (Kd.N_reads' HO_11.out).2.1); rintro e w60 ⟨rfl, hb⟩; refine ⟨_, rfl, ?_⟩; have n0_ := Aside0.mk (Kd.N_below (by (with_reducible repeat (first | apply Kd.N_alloc | apply Kd.N_drewN | apply Kd.N_drew)); exact HO_10.out) hb); have n1_ := Aside0.mk (Kd.N_below (by (with_reducible repeat (first | apply Kd.N_alloc | apply Kd.N_drewN | apply Kd.N_drew)); exact HO_11.out) hb); have n2_ := Aside0.mk (below_step (by repeat (first | (with_reducible first | exact HB.out | apply below_alloc | apply pw_below_drewN | apply below_drew1) | exact HB.out)) hb); clear HO_10; clear HO_11; clear HB; have HO_10 := n0_; have HO_11 := n1_; have HB := n2_; clear n0_ n1_ n2_; (try clear hb); (try clear hb2); (try clear hk); (try clear hi)))
                                go_roundg k2
                                case measure => have := HJ3.out; have := HK2.out; omega
                                case rel => exact ⟨(wrap64 (x87_2 + 1)), (by first | rfl | (simp; done) | (simp [*]; done)), H', ⟨by have := HJ3.out; have := HK2.out; omega⟩, ⟨by (with_reducible repeat (first | apply Kd.N_alloc | apply Kd.N_drewN | apply Kd.N_drew)); exact HO_10.out⟩, ⟨by (with_reducible repeat (first | apply Kd.N_alloc | apply Kd.N_drewN | apply Kd.N_drew)); exact HO_11.out⟩, ⟨by repeat (first | (with_reducible first | exact HB.out | apply below_alloc | apply pw_below_drewN | apply below_drew1) | exact HB.out)⟩⟩
                            · rw [if_neg c51] at H
                              exact absurd H (by simp)
                          · rw [if_neg c50] at H
                            exact absurd H (by simp)
                        · rw [if_neg c49] at H
                          have c49b0 : decide (x87_2 < (l2.length : Int)) = false := decide_eq_false c49
                          clear c49
                          replace H := Option.bind_eq_some_iff.mp H
                          obtain ⟨t302, A610, H⟩ := H
                          replace H : (some t302) = some r := H
                          have A61 := Aside0.mk A610
                          clear A610
                          obtain rfl := Option.some.inj H
                          go_wp2_with (first | ((with_reducible refine gate_callee (f := 11) rfl ?_); refine goesL_ (some 99) rfl rfl Try.func11 (by kernel_rfl) rfl #[] rfl (by (try simp only [List.map_toArray, List.map_cons, List.map_nil]); first | done | rfl | (simp only [List.length_drop, List.length_take]; rfl)) ?_; (with_reducible refine (samphirelaw19_awake.calls k2  t302 _ A61.out).mono ?_); rintro e w62 ⟨rfl, hb⟩; refine ⟨_, rfl, ?_⟩; have n0_ := Aside0.mk (Kd.N_below (by (with_reducible repeat (first | apply Kd.N_alloc | apply Kd.N_drewN | apply Kd.N_drew)); exact HO_10.out) hb); have n1_ := Aside0.mk (Kd.N_below (by (with_reducible repeat (first | apply Kd.N_alloc | apply Kd.N_drewN | apply Kd.N_drew)); exact HO_11.out) hb); have n2_ := Aside0.mk (below_step (by repeat (first | (with_reducible first | exact HB.out | apply below_alloc | apply pw_below_drewN | apply below_drew1) | exact HB.out)) hb); clear HO_10; clear HO_11; clear HB; have HO_10 := n0_; have HO_11 := n1_; have HB := n2_; clear n0_ n1_ n2_; (try clear hb); (try clear hb2); (try clear hk); (try clear hi)))
                          go_ret
                          exact ⟨by first | rfl | (simp [errW_none, errW_some] <;> rfl) | (simp only [← hji17]; first | rfl | (simp [errW_none, errW_some] <;> rfl)) | (simp [*, errW_none, errW_some] <;> rfl), by repeat (first | (with_reducible first | exact HB.out | apply below_alloc | apply pw_below_drewN | apply below_drew1) | exact HB.out)⟩
                  · rw [if_neg c28] at H
                    have c28b0 : (t299 == 0) = false := beq_eq_false_iff_ne.mpr c28
                    have c28b1 : (t299 != 0) = true := bne_iff_ne.mpr c28
                    replace H := Option.bind_eq_some_iff.mp H
                    obtain ⟨t300, A630, H⟩ := H
                    replace H : (if t300 = 1 then ((samphirelaw19_awake.f kj3).bind fun t301 => (some t301)) else (some false)) = some r := H
                    have A63 := Aside0.mk A630
                    clear A630
                    by_cases c64 : t300 = 1
                    · rw [if_pos c64] at H
                      have c64b0 : (t300 == 1) = true := beq_iff_eq.mpr c64
                      have c64b1 : (t300 != 1) = false := bne_eq_false_iff_eq.mpr c64
                      clear c64
                      replace H := Option.bind_eq_some_iff.mp H
                      obtain ⟨t301, A650, H⟩ := H
                      replace H : (some t301) = some r := H
                      have A65 := Aside0.mk A650
                      clear A650
                      obtain rfl := Option.some.inj H
                      try go_wp2
                      have n0_ := Aside0.mk (Kd.V_drew HO_1.out)
                      have n1_ := Aside0.mk (below_drew1 HB.out)
                      clear HO_1
                      clear HB
                      have HO_1 := n0_
                      have HB := n1_
                      clear n0_ n1_
                      have p21 : 0 ≤ ((ji17) : Int) := of_decide_eq_true (by first | (with_reducible assumption) | assumption)
                      have q21 : (ji17) < (a0.size : Int) := of_decide_eq_true (by first | (with_reducible assumption) | assumption)
                      have hx21 := bt_at a0 (ji17)
                      replace p21 := eq_true p21
                      replace q21 := eq_true q21
                      refine start_ (n := 15) (S := fun w' => True) (ds := []) #[false, false, false, false, false, false, false, false, false, false, false, false, false, false, false] (by kernel_rfl) rfl rfl trivial (fun hHeld => ?_); refine with_tabW samphirelaw19_ChooseParts.tab3 samphirelaw19_ChooseParts.bits3 (fun HT_ HW_ => ?_)
                      generalize wc.drew = w66 at HO_1 HB hHeld ⊢
                      refine pure_ (i := 0) (N := some 41) (v := ?_) (a' := ?_) #[true, false, false, false, false, false, false, false, false, false, false, false, false, false, false] rfl rfl (any_of HT_.out (by kernel_rfl)) (fun _ _ _ h => h) (Or.inl ⟨by rfl, ?_⟩) ?_ ?_
                      rotate_left
                      · intro w'
                        go_simp
                        with_reducible rfl
                      rotate_left
                      · simp only [Act.put, List.setIfInBounds_toArray, List.set_cons_zero, List.set_cons_succ, i64_w, i32_w]
                        rfl
                      refine pure_ (i := 1) (N := some 42) (v := ?_) (a' := ?_) #[true, true, false, false, false, false, false, false, false, false, false, false, false, false, false] rfl rfl (any_of HT_.out (by kernel_rfl)) (fun _ _ _ h => h) (Or.inl ⟨by rfl, ?_⟩) ?_ ?_
                      rotate_left
                      · intro w'
                        go_simp
                        with_reducible rfl
                      rotate_left
                      · simp only [Act.put, List.setIfInBounds_toArray, List.set_cons_zero, List.set_cons_succ, i64_w, i32_w]
                        rfl
                      refine pure_ (i := 2) (N := some 43) (v := ?_) (a' := ?_) #[true, true, true, false, false, false, false, false, false, false, false, false, false, false, false] rfl rfl (any_of HT_.out (by kernel_rfl)) (fun _ _ _ h => h) (Or.inl ⟨by rfl, ?_⟩) ?_ ?_
                      rotate_left
                      · intro w'
                        go_simp
                        with_reducible rfl
                      rotate_left
                      · simp only [Act.put, List.setIfInBounds_toArray, List.set_cons_zero, List.set_cons_succ, i64_w, i32_w]
                        rfl
                      refine pure_ (i := 3) (N := some 44) (v := ?_) (a' := ?_) #[true, true, true, true, false, false, false, false, false, false, false, false, false, false, false] rfl rfl (any_of HT_.out (by kernel_rfl)) (fun _ _ _ h => h) (Or.inl ⟨by rfl, ?_⟩) ?_ ?_
                      rotate_left
                      · intro w'
                        go_simp
                        with_reducible rfl
                      rotate_left
                      · simp only [Act.put, List.setIfInBounds_toArray, List.set_cons_zero, List.set_cons_succ, i64_w, i32_w]
                        rfl
                      refine pure_ (i := 4) (N := some 45) (v := ?_) (a' := ?_) #[true, true, true, true, true, false, false, false, false, false, false, false, false, false, false] rfl rfl (any_of HT_.out (by kernel_rfl)) (fun _ _ _ h => h) (Or.inl ⟨by rfl, ?_⟩) ?_ ?_
                      rotate_left
                      · intro w'
                        go_simp
                        with_reducible rfl
                      rotate_left
                      · simp only [Act.put, List.setIfInBounds_toArray, List.set_cons_zero, List.set_cons_succ, i64_w, i32_w]
                        rfl
                      refine pure_ (i := 5) (N := some 46) (v := ?_) (a' := ?_) #[true, true, true, true, true, true, false, false, false, false, false, false, false, false, false] rfl rfl (any_of HT_.out (by kernel_rfl)) (fun _ _ _ h => h) (Or.inl ⟨by rfl, ?_⟩) ?_ ?_
                      rotate_left
                      · intro w'
                        go_simp
                        with_reducible rfl
                      rotate_left
                      · simp only [Act.put, List.setIfInBounds_toArray, List.set_cons_zero, List.set_cons_succ, i64_w, i32_w]
                        rfl
                      refine pure_ (i := 6) (N := some 47) (v := ?_) (a' := ?_) #[true, true, true, true, true, true, true, false, false, false, false, false, false, false, false] rfl rfl (any_of HT_.out (by kernel_rfl)) (fun _ _ _ h => h) (Or.inl ⟨by rfl, ?_⟩) ?_ ?_
                      rotate_left
                      · intro w'
                        go_simp
                        with_reducible rfl
                      rotate_left
                      · simp only [Act.put, List.setIfInBounds_toArray, List.set_cons_zero, List.set_cons_succ, i64_w, i32_w]
                        rfl
                      refine pure_ (i := 7) (N := some 48) (v := ?_) (a' := ?_) #[true, true, true, true, true, true, true, true, false, false, false, false, false, false, false] rfl rfl (any_of HT_.out (by kernel_rfl)) (fun _ _ _ h => h) (Or.inl ⟨by rfl, ?_⟩) ?_ ?_
                      rotate_left
                      · intro w'
                        go_simp
                        with_reducible rfl
                      rotate_left
                      · simp only [Act.put, List.setIfInBounds_toArray, List.set_cons_zero, List.set_cons_succ, i64_w, i32_w]
                        rfl
                      refine pure_ (i := 8) (N := some 49) (v := ?_) (a' := ?_) #[true, true, true, true, true, true, true, true, true, false, false, false, false, false, false] rfl rfl (any_of HT_.out (by kernel_rfl)) (fun _ _ _ h => h) (Or.inl ⟨by rfl, ?_⟩) ?_ ?_
                      rotate_left
                      · intro w'
                        go_simp
                        with_reducible rfl
                      rotate_left
                      · simp only [Act.put, List.setIfInBounds_toArray, List.set_cons_zero, List.set_cons_succ, i64_w, i32_w]
                        rfl
                      refine take_ (i := 9) (N := some 50) (v := ?_) (a' := ?_) #[true, true, true, true, true, true, true, true, true, true, false, false, false, false, false] rfl rfl (take_ofW HT_.out HW_.out (by kernel_rfl)) (fun _ _ _ h => h) (Or.inl ⟨by rfl, ?_⟩) hHeld ?_ ?_
                      rotate_left
                      · intro w' _
                        go_simp
                        with_reducible rfl
                      rotate_left
                      · simp only [Act.put, List.setIfInBounds_toArray, List.set_cons_zero, List.set_cons_succ, i64_w, i32_w]
                        rfl
                      refine pure_ (i := 10) (N := some 51) (v := ?_) (a' := ?_) #[true, true, true, true, true, true, true, true, true, true, true, false, false, false, false] rfl rfl (any_of HT_.out (by kernel_rfl)) (fun _ _ _ h => h) (Or.inl ⟨by rfl, ?_⟩) ?_ ?_
                      rotate_left
                      · intro w'
                        go_simp
                        with_reducible rfl
                      rotate_left
                      · simp only [Act.put, List.setIfInBounds_toArray, List.set_cons_zero, List.set_cons_succ, i64_w, i32_w]
                        rfl
                      refine one_ (i := 11) (N := some 52) #[true, true, true, true, true, true, true, true, true, true, true, true, false, false, false] rfl rfl (one_of HT_.out (by kernel_rfl)) (by decide) (fun K hK => ?_)
                      refine Kd.R_lit_step (Kd.int .u8) _ 5 ?hg (N := 52) ?hd (xs := ([((bt a0 (ji17)) + 1) % 256] : List Int)) (inner := [.int .u8 (((bt a0 (ji17)) + 1) % 256)]) (ok := fun _ => True) (okp := fun _ => True) ?hr ?hp (fun _ hk => hk) trivial (Below.refl _ _) (Nat.le_refl _) (by simp) ?_; (case hd => rfl); (case hg => rfl); (case hr => first | (go_simp; done) | (go_simp; rfl)); (case hp => exact (Reps.one (show Kd.M (Kd.int .u8) _ _ _ (((bt a0 (ji17)) + 1) % 256) [.int .u8 (((bt a0 (ji17)) + 1) % 256)] from rfl) (Reps.none _ _)))
                      intro v278 w67 ho68 hb hg_ hnew_
                      clear hg_ hnew_
                      (first | rw [← Ny277.out] at ho68 | (simp only [Int.reduceToNat] at ho68; rw [← Ny277.out] at ho68))
                      have n0_ := Aside0.mk (Kd.V_elder' (by (with_reducible repeat (first | apply Kd.V_alloc | apply Kd.V_drewN | apply Kd.V_drew)); exact HO_1.out) (Kd.R_base ho68) hb)
                      have n1_ := Aside0.mk (Kd.R_lower (Kd.R_newM (M := fun k_ => (w.heap.size ≤ k_)) ho68 (below_size (by repeat (first | (with_reducible first | exact HB.out | apply below_alloc | apply pw_below_drewN | apply below_drew1) | exact HB.out))) (fun k_ h_ => h_)) (below_size (by repeat (first | (with_reducible first | exact HB.out | apply below_alloc | apply pw_below_drewN | apply below_drew1) | exact HB.out))))
                      have n2_ := Aside0.mk (below_step (by repeat (first | (with_reducible first | exact HB.out | apply below_alloc | apply pw_below_drewN | apply below_drew1) | exact HB.out)) hb)
                      clear HO_1
                      clear HB
                      have HO_1 := n0_
                      have HO279 := n1_
                      have HB := n2_
                      clear n0_ n1_ n2_
                      clear hb ho68
                      refine hK.out _ _ trivial (fun hHeld => ?_)
                      clear hK K
                      refine norm_ (a' := ?_) ?_ ?_
                      rotate_left
                      · show Act.put _ (some 52) _ = _
                        simp only [Act.put, List.setIfInBounds_toArray, List.set_cons_zero, List.set_cons_succ, i64_w, i32_w]
                        rfl
                      refine one_ (i := 12) (N := some 53) #[true, true, true, true, true, true, true, true, true, true, true, true, true, false, false] rfl rfl (one_of HT_.out (by kernel_rfl)) (by decide) (fun K hK => ?_)
                      have hcv69 := own_string (P := Try.prog) Try.underlying40 Try.underlying5 Try.underlying9 (Kd.own_of_R HO279.out)
                      refine value_ (w1 := ?_) (v := ?_) (by rfl) rfl ?_ ?_
                      rotate_left 2
                      · go_simp
                        constructor
                        · rfl
                        · rfl
                      clear hcv69
                      refine hK.out _ _ trivial (fun hHeld => ?_)
                      clear hK K
                      refine norm_ (a' := ?_) ?_ ?_
                      rotate_left
                      · show Act.put _ (some 53) _ = _
                        simp only [Act.put, List.setIfInBounds_toArray, List.set_cons_zero, List.set_cons_succ, i64_w, i32_w]
                        rfl
                      refine pure_ (i := 13) (N := some 54) (v := ?_) (a' := ?_) #[true, true, true, true, true, true, true, true, true, true, true, true, true, true, false] rfl rfl (any_of HT_.out (by kernel_rfl)) (fun _ _ _ h => h) (Or.inl ⟨by rfl, ?_⟩) ?_ ?_
                      rotate_left
                      · intro w'
                        go_simp
                        with_reducible rfl
                      rotate_left
                      · simp only [Act.put, List.setIfInBounds_toArray, List.set_cons_zero, List.set_cons_succ, i64_w, i32_w]
                        rfl
                      refine pure_ (i := 14) (N := some 7) (v := ?_) (a' := ?_) #[true, true, true, true, true, true, true, true, true, true, true, true, true, true, true] rfl rfl (any_of HT_.out (by kernel_rfl)) (fun _ _ _ h => h) (Or.inl ⟨by rfl, ?_⟩) ?_ ?_
                      rotate_left
                      · intro w'
                        go_simp
                        with_reducible rfl
                      rotate_left
                      · simp only [Act.put, List.setIfInBounds_toArray, List.set_cons_zero, List.set_cons_succ, i64_w, i32_w]
                        rfl
                      refine done_ (done_of HT_.out (by kernel_rfl)) ?_
                      try go_wp2_with (first | ((with_reducible refine gate_dst (N := 57) rfl ?_); (try (refine gate_guard (by rfl) ?_; dsimp only)); refine Kd.N_lit k42 _ 42 ?hg (N' := 57) ?hd (xs := ([(⟨1, a0, (⟨#[]⟩ : ByteArray), ([] : List ByteArray)⟩ : S42)] : List (S42))) (inner := [.int .i64 1, .string a0, .string (⟨#[]⟩ : ByteArray), .slice none 0 0]) (ok := (fun k_ => (P1_ k_ ∨ w.heap.size ≤ k_) ∧ some k_ ≠ (v278 : Value).ownBlock)) (okp := (fun k_ => (P1_ k_ ∨ w.heap.size ≤ k_) ∧ some k_ ≠ (v278 : Value).ownBlock)) ?hr ?hp (fun _ hk => hk) ((show ∀ k_, w67.heap.size ≤ k_ → (fun k_ => (P1_ k_ ∨ w.heap.size ≤ k_) ∧ some k_ ≠ (v278 : Value).ownBlock) k_ from fun k_ hk => ⟨(.inr (Nat.le_trans (below_size (by repeat (first | (with_reducible first | exact HB.out | apply below_alloc | apply pw_below_drewN | apply below_drew1) | exact HB.out))) hk)), Kd.fresh' (Kd.R_lt (by (with_reducible repeat (first | apply Kd.R_alloc | apply Kd.R_drewN | apply Kd.R_drew)); exact HO279.out)) k_ hk⟩) _ (Nat.le_refl _)) (Below.refl _ _) (Nat.le_refl _) (by simp) ?_; (case hd => rfl); (case hg => rfl); (case hr => first | (go_simp; done) | (go_simp; rfl)); (case hp => exact (Reps.c4 (show Kd.FK k42 _ _ (⟨1, a0, (⟨#[]⟩ : ByteArray), ([] : List ByteArray)⟩ : S42) [.int .i64 1, .string a0, .string (⟨#[]⟩ : ByteArray), .slice none 0 0] from (k42_mkF _ _ (⟨1, a0, (⟨#[]⟩ : ByteArray), ([] : List ByteArray)⟩ : S42) (Nat.le_refl _) (Kd.F_nil _ _ _))) (Reps.none _ _))); intro v281 w70 ho71 hb hg_ hnew_; clear hg_ hnew_; (first | rw [← Ny280.out] at ho71 | (simp only [Int.reduceToNat] at ho71; rw [← Ny280.out] at ho71)); have n0_ := Aside0.mk (Kd.V_elder' (by (with_reducible repeat (first | apply Kd.V_alloc | apply Kd.V_drewN | apply Kd.V_drew)); exact HO_1.out) (Kd.N_base ho71) hb); have n1_ := Aside0.mk (Kd.R_below (by (with_reducible repeat (first | apply Kd.R_alloc | apply Kd.R_drewN | apply Kd.R_drew)); exact HO279.out) hb); have n2_ := Aside0.mk (Kd.N_lower ho71 (below_size (by repeat (first | (with_reducible first | exact HB.out | apply below_alloc | apply pw_below_drewN | apply below_drew1) | exact HB.out)))); have n3_ := Aside0.mk (below_step (by repeat (first | (with_reducible first | exact HB.out | apply below_alloc | apply pw_below_drewN | apply below_drew1) | exact HB.out)) hb); clear HO_1; clear HO279; clear HB; have HO_1 := n0_; have HO279 := n1_; have HO282 := n2_; have HB := n3_; clear n0_ n1_ n2_ n3_; clear hb ho71) | ((with_reducible refine gate_dst (N := 61) rfl ?_); (try (refine gate_guard (by rfl) ?_; dsimp only)); refine Kd.N_lit k42 _ 42 ?hg (N' := 61) ?hd (xs := ([(⟨2, a0, (a0.extract 0 ((ji17) : Int).toNat) ++ (strOfNums y277), ([] : List ByteArray)⟩ : S42)] : List (S42))) (inner := [.int .i64 2, .string a0, .string ((a0.extract 0 ((ji17) : Int).toNat) ++ (strOfNums y277)), .slice none 0 0]) (ok := (fun k_ => (P1_ k_ ∨ w.heap.size ≤ k_) ∧ some k_ ≠ (v278 : Value).ownBlock ∧ some k_ ≠ (v281 : Value).ownBlock)) (okp := (fun k_ => (P1_ k_ ∨ w.heap.size ≤ k_) ∧ some k_ ≠ (v278 : Value).ownBlock ∧ some k_ ≠ (v281 : Value).ownBlock)) ?hr ?hp (fun _ hk => hk) ((show ∀ k_, w70.heap.size ≤ k_ → (fun k_ => (P1_ k_ ∨ w.heap.size ≤ k_) ∧ some k_ ≠ (v278 : Value).ownBlock ∧ some k_ ≠ (v281 : Value).ownBlock) k_ from fun k_ hk => ⟨(.inr (Nat.le_trans (below_size (by repeat (first | (with_reducible first | exact HB.out | apply below_alloc | apply pw_below_drewN | apply below_drew1) | exact HB.out))) hk)), Kd.fresh' (Kd.R_lt (by (with_reducible repeat (first | apply Kd.R_alloc | apply Kd.R_drewN | apply Kd.R_drew)); exact HO279.out)) k_ hk, Kd.fresh' (Kd.N_lt (by (with_reducible repeat (first | apply Kd.N_alloc | apply Kd.N_drewN | apply Kd.N_drew)); exact HO282.out)) k_ hk⟩) _ (Nat.le_refl _)) (Below.refl _ _) (Nat.le_refl _) (by simp) ?_; (case hd => rfl); (case hg => rfl); (case hr => first | (go_simp; done) | (go_simp; rfl)); (case hp => exact (Reps.c4 (show Kd.FK k42 _ _ (⟨2, a0, (a0.extract 0 ((ji17) : Int).toNat) ++ (strOfNums y277), ([] : List ByteArray)⟩ : S42) [.int .i64 2, .string a0, .string ((a0.extract 0 ((ji17) : Int).toNat) ++ (strOfNums y277)), .slice none 0 0] from (k42_mkF _ _ (⟨2, a0, (a0.extract 0 ((ji17) : Int).toNat) ++ (strOfNums y277), ([] : List ByteArray)⟩ : S42) (Nat.le_refl _) (Kd.F_nil _ _ _))) (Reps.none _ _))); intro v284 w72 ho73 hb hg_ hnew_; clear hg_ hnew_; (first | rw [← Ny283.out] at ho73 | (simp only [Int.reduceToNat] at ho73; rw [← Ny283.out] at ho73)); have n0_ := Aside0.mk (Kd.V_elder' (by (with_reducible repeat (first | apply Kd.V_alloc | apply Kd.V_drewN | apply Kd.V_drew)); exact HO_1.out) (Kd.N_base ho73) hb); have n1_ := Aside0.mk (Kd.R_below (by (with_reducible repeat (first | apply Kd.R_alloc | apply Kd.R_drewN | apply Kd.R_drew)); exact HO279.out) hb); have n2_ := Aside0.mk (Kd.N_elder' (by (with_reducible repeat (first | apply Kd.N_alloc | apply Kd.N_drewN | apply Kd.N_drew)); exact HO282.out) (Kd.N_base ho73) hb); have n3_ := Aside0.mk (Kd.N_lower ho73 (below_size (by repeat (first | (with_reducible first | exact HB.out | apply below_alloc | apply pw_below_drewN | apply below_drew1) | exact HB.out)))); have n4_ := Aside0.mk (below_step (by repeat (first | (with_reducible first | exact HB.out | apply below_alloc | apply pw_below_drewN | apply below_drew1) | exact HB.out)) hb); clear HO_1; clear HO279; clear HO282; clear HB; have HO_1 := n0_; have HO279 := n1_; have HO282 := n2_; have HO285 := n3_; have HB := n4_; clear n0_ n1_ n2_ n3_ n4_; clear hb ho73; obtain ⟨Ao74, co74, eo74⟩ := Kd.N_slice HO282.out; subst eo74) | ((with_reducible refine gate_callee (f := 17) rfl ?_); refine goesL_ (some 64) rfl rfl Try.func17 (by kernel_rfl) rfl #[.slice Ao74 y280.length co74, .slice A2 l2.length c2] rfl (by (try simp only [List.map_toArray, List.map_cons, List.map_nil]); first | done | rfl | (simp only [List.length_drop, List.length_take]; rfl)) ?_; (with_reducible refine (choose_Keys.calls kj3 _ _ y280 _ _ l2 t286 _ ?side1 ?side2 ?side3 ?side4 A23.out).mono ?_); (case side1 => repeat (first | exact (Kd.N_reads' HO282.out).2.2 | (with_reducible refine Kd.C_alloc ?_ _) | (with_reducible refine Kd.C_drewN ?_ _) | (with_reducible refine Kd.C_drew ?_))); (case side2 => exact (Kd.N_reads' HO282.out).2.1); (case side3 => repeat (first | exact (Kd.C_below HR2.out HB.out) | (with_reducible refine Kd.C_alloc ?_ _) | (with_reducible refine Kd.C_drewN ?_ _) | (with_reducible refine Kd.C_drew ?_))); (case side4 => exact HC2.out); rintro e w75 ⟨v287, rfl, ho0, hb⟩; refine ⟨_, rfl, ?_⟩; have n0_ := Aside0.mk (Kd.V_elder' (by (with_reducible repeat (first | apply Kd.V_alloc | apply Kd.V_drewN | apply Kd.V_drew)); exact HO_1.out) (Kd.R_base ho0) hb); have n1_ := Aside0.mk (Kd.R_below (by (with_reducible repeat (first | apply Kd.R_alloc | apply Kd.R_drewN | apply Kd.R_drew)); exact HO279.out) hb); have n2_ := Aside0.mk (Kd.N_elder' (by (with_reducible repeat (first | apply Kd.N_alloc | apply Kd.N_drewN | apply Kd.N_drew)); exact HO282.out) (Kd.R_base ho0) hb); have n3_ := Aside0.mk (Kd.N_elder' (by (with_reducible repeat (first | apply Kd.N_alloc | apply Kd.N_drewN | apply Kd.N_drew)); exact HO285.out) (Kd.R_base ho0) hb); have n4_ := Aside0.mk (Kd.R_lower (Kd.R_newM (M := fun k_ => (w.heap.size ≤ k_)) ho0 (below_size (by repeat (first | (with_reducible first | exact HB.out | apply below_alloc | apply pw_below_drewN | apply below_drew1) | exact HB.out))) (fun k_ h_ => h_)) (below_size (by repeat (first | (with_reducible first | exact HB.out | apply below_alloc | apply pw_below_drewN | apply below_drew1) | exact HB.out)))); have n5_ := Aside0.mk (below_step (by repeat (first | (with_reducible first | exact HB.out | apply below_alloc | apply pw_below_drewN | apply below_drew1) | exact HB.out)) hb); clear HO_1; clear HO279; clear HO282; clear HO285; clear HB; have HO_1 := n0_; have HO279 := n1_; have HO282 := n2_; have HO285 := n3_; have HO288 := n4_; have HB := n5_; clear n0_ n1_ n2_ n3_ n4_ n5_; (try clear hb); (try clear hb2); (try clear hk); (try clear hi); (try clear ho0); obtain ⟨Ao76, co76, eo76⟩ := Kd.N_slice HO285.out; subst eo76) | ((with_reducible refine gate_callee (f := 17) rfl ?_); refine goesL_ (some 67) rfl rfl Try.func17 (by kernel_rfl) rfl #[.slice Ao76 y283.length co76, .slice A2 l2.length c2] rfl (by (try simp only [List.map_toArray, List.map_cons, List.map_nil]); first | done | rfl | (simp only [List.length_drop, List.length_take]; rfl)) ?_; (with_reducible refine (choose_Keys.calls kj3 _ _ y283 _ _ l2 t289 _ ?side1 ?side2 ?side3 ?side4 A24.out).mono ?_); (case side1 => repeat (first | exact (Kd.N_reads' HO285.out).2.2 | (with_reducible refine Kd.C_alloc ?_ _) | (with_reducible refine Kd.C_drewN ?_ _) | (with_reducible refine Kd.C_drew ?_))); (case side2 => exact (Kd.N_reads' HO285.out).2.1); (case side3 => repeat (first | exact (Kd.C_below HR2.out HB.out) | (with_reducible refine Kd.C_alloc ?_ _) | (with_reducible refine Kd.C_drewN ?_ _) | (with_reducible refine Kd.C_drew ?_))); (case side4 => exact HC2.out); rintro e w77 ⟨v290, rfl, ho0, hb⟩; refine ⟨_, rfl, ?_⟩; have n0_ := Aside0.mk (Kd.V_elder' (by (with_reducible repeat (first | apply Kd.V_alloc | apply Kd.V_drewN | apply Kd.V_drew)); exact HO_1.out) (Kd.R_base ho0) hb); have n1_ := Aside0.mk (Kd.R_below (by (with_reducible repeat (first | apply Kd.R_alloc | apply Kd.R_drewN | apply Kd.R_drew)); exact HO279.out) hb); have n2_ := Aside0.mk (Kd.N_elder' (by (with_reducible repeat (first | apply Kd.N_alloc | apply Kd.N_drewN | apply Kd.N_drew)); exact HO282.out) (Kd.R_base ho0) hb); have n3_ := Aside0.mk (Kd.N_elder' (by (with_reducible repeat (first | apply Kd.N_alloc | apply Kd.N_drewN | apply Kd.N_drew)); exact HO285.out) (Kd.R_base ho0) hb); have n4_ := Aside0.mk (Kd.R_elder' (by (with_reducible repeat (first | apply Kd.R_alloc | apply Kd.R_drewN | apply Kd.R_drew)); exact HO288.out) (Kd.R_base ho0) hb); have n5_ := Aside0.mk (Kd.R_lower (Kd.R_new' (Kd.R_newM (M := fun k_ => (w.heap.size ≤ k_)) ho0 (below_size (by repeat (first | (with_reducible first | exact HB.out | apply below_alloc | apply pw_below_drewN | apply below_drew1) | exact HB.out))) (fun k_ h_ => h_)) (Kd.R_lt (by (with_reducible repeat (first | apply Kd.R_alloc | apply Kd.R_drewN | apply Kd.R_drew)); exact HO288.out))) (below_size (by repeat (first | (with_reducible first | exact HB.out | apply below_alloc | apply pw_below_drewN | apply below_drew1) | exact HB.out)))); have n6_ := Aside0.mk (below_step (by repeat (first | (with_reducible first | exact HB.out | apply below_alloc | apply pw_below_drewN | apply below_drew1) | exact HB.out)) hb); clear HO_1; clear HO279; clear HO282; clear HO285; clear HO288; clear HB; have HO_1 := n0_; have HO279 := n1_; have HO282 := n2_; have HO285 := n3_; have HO288 := n4_; have HO291 := n5_; have HB := n6_; clear n0_ n1_ n2_ n3_ n4_ n5_ n6_; (try clear hb); (try clear hb2); (try clear hk); (try clear hi); (try clear ho0); obtain ⟨Ao78, co78, eo78⟩ := Kd.R_slice HO288.out; subst eo78; obtain ⟨Ao79, co79, eo79⟩ := Kd.R_slice HO291.out; subst eo79) | ((with_reducible refine gate_callee (f := 16) rfl ?_); refine goesL_ (some 68) rfl rfl Try.func16 (by kernel_rfl) rfl #[.slice Ao78 t286.length co78, .slice Ao79 t289.length co79] rfl (by (try simp only [List.map_toArray, List.map_cons, List.map_nil]); first | done | rfl | (simp only [List.length_drop, List.length_take]; rfl)) ?_; (with_reducible refine (samphireref16_Strings.calls kj3 _ _ t286 _ _ t289 true _ ?side1 ?side2 ?side3 ?side4 A25.out).mono ?_); (case side1 => repeat (first | exact (Kd.R_reads' HO288.out).2.2 | (with_reducible refine Kd.C_alloc ?_ _) | (with_reducible refine Kd.C_drewN ?_ _) | (with_reducible refine Kd.C_drew ?_))); (case side2 => exact (Kd.R_reads' HO288.out).2.1); (case side3 => repeat (first | exact (Kd.R_reads' HO291.out).2.2 | (with_reducible refine Kd.C_alloc ?_ _) | (with_reducible refine Kd.C_drewN ?_ _) | (with_reducible refine Kd.C_drew ?_))); (case side4 => exact (Kd.R_reads' HO291.out).2.1); rintro e w' ⟨rfl, ⟨nd, rfl⟩⟩; refine ⟨_, rfl, ?_⟩) | ((with_reducible refine gate_dst (N := 72) rfl ?_); (try (refine gate_guard (by rfl) ?_; dsimp only)); refine Kd.N_lit k42 _ 42 ?hg (N' := 72) ?hd (xs := ([(⟨3, (⟨#[]⟩ : ByteArray), (⟨#[]⟩ : ByteArray), l1⟩ : S42)] : List (S42))) (inner := [.int .i64 3, .string (⟨#[]⟩ : ByteArray), .string (⟨#[]⟩ : ByteArray), .slice A1 l1.length c1]) (ok := (fun k_ => (P1_ k_ ∨ w.heap.size ≤ k_) ∧ some k_ ≠ (v278 : Value).ownBlock ∧ some k_ ≠ (.slice Ao74 y280.length co74 : Value).ownBlock ∧ some k_ ≠ (.slice Ao76 y283.length co76 : Value).ownBlock ∧ some k_ ≠ (.slice Ao78 t286.length co78 : Value).ownBlock ∧ some k_ ≠ (.slice Ao79 t289.length co79 : Value).ownBlock)) (okp := (fun k_ => (P1_ k_ ∨ w.heap.size ≤ k_) ∧ some k_ ≠ (v278 : Value).ownBlock ∧ some k_ ≠ (.slice Ao74 y280.length co74 : Value).ownBlock ∧ some k_ ≠ (.slice Ao76 y283.length co76 : Value).ownBlock ∧ some k_ ≠ (.slice Ao78 t286.length co78 : Value).ownBlock ∧ some k_ ≠ (.slice Ao79 t289.length co79 : Value).ownBlock)) ?hr ?hp (fun _ hk => hk) ((show ∀ k_, w77.heap.size ≤ k_ → (fun k_ => (P1_ k_ ∨ w.heap.size ≤ k_) ∧ some k_ ≠ (v278 : Value).ownBlock ∧ some k_ ≠ (.slice Ao74 y280.length co74 : Value).ownBlock ∧ some k_ ≠ (.slice Ao76 y283.length co76 : Value).ownBlock ∧ some k_ ≠ (.slice Ao78 t286.length co78 : Value).ownBlock ∧ some k_ ≠ (.slice Ao79 t289.length co79 : Value).ownBlock) k_ from fun k_ hk => ⟨(.inr (Nat.le_trans (below_size (by repeat (first | (with_reducible first | exact HB.out | apply below_alloc | apply pw_below_drewN | apply below_drew1) | exact HB.out))) hk)), Kd.fresh' (Kd.R_lt (by (with_reducible repeat (first | apply Kd.R_alloc | apply Kd.R_drewN | apply Kd.R_drew)); exact HO279.out)) k_ hk, Kd.fresh' (Kd.N_lt (by (with_reducible repeat (first | apply Kd.N_alloc | apply Kd.N_drewN | apply Kd.N_drew)); exact HO282.out)) k_ hk, Kd.fresh' (Kd.N_lt (by (with_reducible repeat (first | apply Kd.N_alloc | apply Kd.N_drewN | apply Kd.N_drew)); exact HO285.out)) k_ hk, Kd.fresh' (Kd.R_lt (by (with_reducible repeat (first | apply Kd.R_alloc | apply Kd.R_drewN | apply Kd.R_drew)); exact HO288.out)) k_ hk, Kd.fresh' (Kd.R_lt (by (with_reducible repeat (first | apply Kd.R_alloc | apply Kd.R_drewN | apply Kd.R_drew)); exact HO291.out)) k_ hk⟩) _ (Nat.le_refl _)) (Below.refl _ _) (Nat.le_refl _) (by simp) ?_; (case hd => rfl); (case hg => rfl); (case hr => first | (go_simp; done) | (go_simp; rfl)); (case hp => first | exact (Reps.c4 (show Kd.FK k42 _ _ (⟨3, (⟨#[]⟩ : ByteArray), (⟨#[]⟩ : ByteArray), l1⟩ : S42) [.int .i64 3, .string (⟨#[]⟩ : ByteArray), .string (⟨#[]⟩ : ByteArray), .slice A1 l1.length c1] from (k42_mkF _ _ (⟨3, (⟨#[]⟩ : ByteArray), (⟨#[]⟩ : ByteArray), l1⟩ : S42) (Kd.V_reads' (Kd.V_mono (ok' := (fun k_ => (P1_ k_ ∨ w.heap.size ≤ k_) ∧ some k_ ≠ (v278 : Value).ownBlock ∧ some k_ ≠ (.slice Ao74 y280.length co74 : Value).ownBlock ∧ some k_ ≠ (.slice Ao76 y283.length co76 : Value).ownBlock ∧ some k_ ≠ (.slice Ao78 t286.length co78 : Value).ownBlock ∧ some k_ ≠ (.slice Ao79 t289.length co79 : Value).ownBlock)) (HO_1.out) (fun k_ hk => ⟨hk.1.1.1.1.1, ⟨hk.1.1.1.1.2, ⟨hk.1.1.1.2, ⟨hk.1.1.2, ⟨hk.1.2, hk.2⟩⟩⟩⟩⟩))).2.1 (Kd.V_F (Kd.V_mono (ok' := (fun k_ => (P1_ k_ ∨ w.heap.size ≤ k_) ∧ some k_ ≠ (v278 : Value).ownBlock ∧ some k_ ≠ (.slice Ao74 y280.length co74 : Value).ownBlock ∧ some k_ ≠ (.slice Ao76 y283.length co76 : Value).ownBlock ∧ some k_ ≠ (.slice Ao78 t286.length co78 : Value).ownBlock ∧ some k_ ≠ (.slice Ao79 t289.length co79 : Value).ownBlock)) (HO_1.out) (fun k_ hk => ⟨hk.1.1.1.1.1, ⟨hk.1.1.1.1.2, ⟨hk.1.1.1.2, ⟨hk.1.1.2, ⟨hk.1.2, hk.2⟩⟩⟩⟩⟩))))) (Reps.none _ _)) | exact (Reps.c4 (show Kd.FK k42 _ _ (⟨3, (⟨#[]⟩ : ByteArray), (⟨#[]⟩ : ByteArray), l1⟩ : S42) [.int .i64 3, .string (⟨#[]⟩ : ByteArray), .string (⟨#[]⟩ : ByteArray), .slice A1 l1.length c1] from (k42_mkF _ _ (⟨3, (⟨#[]⟩ : ByteArray), (⟨#[]⟩ : ByteArray), l1⟩ : S42) (Kd.V_reads' (Kd.V_mono (ok' := (fun k_ => (P1_ k_ ∨ w.heap.size ≤ k_) ∧ some k_ ≠ (v278 : Value).ownBlock ∧ some k_ ≠ (.slice Ao74 y280.length co74 : Value).ownBlock ∧ some k_ ≠ (.slice Ao76 y283.length co76 : Value).ownBlock ∧ some k_ ≠ (.slice Ao78 t286.length co78 : Value).ownBlock ∧ some k_ ≠ (.slice Ao79 t289.length co79 : Value).ownBlock)) (HO_1.out) (fun k_ hk => ⟨hk.1.1.1.1.1, ⟨hk.1.1.1.1.2, ⟨hk.1.1.1.2, ⟨hk.1.1.2, ⟨hk.1.2, hk.2⟩⟩⟩⟩⟩))).2.1 (Kd.V_F (Kd.V_mono (ok' := (fun k_ => (P1_ k_ ∨ w.heap.size ≤ k_) ∧ some k_ ≠ (v278 : Value).ownBlock ∧ some k_ ≠ (.slice Ao74 y280.length co74 : Value).ownBlock ∧ some k_ ≠ (.slice Ao76 y283.length co76 : Value).ownBlock ∧ some k_ ≠ (.slice Ao78 t286.length co78 : Value).ownBlock ∧ some k_ ≠ (.slice Ao79 t289.length co79 : Value).ownBlock)) (Kd.V_drewN HO_1.out _) (fun k_ hk => ⟨hk.1.1.1.1.1, ⟨hk.1.1.1.1.2, ⟨hk.1.1.1.2, ⟨hk.1.1.2, ⟨hk.1.2, hk.2⟩⟩⟩⟩⟩))))) (Reps.none _ _))); intro v294 w80 ho81 hb hg_ hnew_; clear hg_ hnew_; (first | rw [← Ny293.out] at ho81 | (simp only [Int.reduceToNat] at ho81; rw [← Ny293.out] at ho81)); have n0_ := Aside0.mk (Kd.V_elder' (by (with_reducible repeat (first | apply Kd.V_alloc | apply Kd.V_drewN | apply Kd.V_drew)); exact HO_1.out) (Kd.N_base ho81) hb); have n1_ := Aside0.mk (Kd.R_below (by (with_reducible repeat (first | apply Kd.R_alloc | apply Kd.R_drewN | apply Kd.R_drew)); exact HO279.out) hb); have n2_ := Aside0.mk (Kd.N_elder' (by (with_reducible repeat (first | apply Kd.N_alloc | apply Kd.N_drewN | apply Kd.N_drew)); exact HO282.out) (Kd.N_base ho81) hb); have n3_ := Aside0.mk (Kd.N_elder' (by (with_reducible repeat (first | apply Kd.N_alloc | apply Kd.N_drewN | apply Kd.N_drew)); exact HO285.out) (Kd.N_base ho81) hb); have n4_ := Aside0.mk (Kd.R_below (by (with_reducible repeat (first | apply Kd.R_alloc | apply Kd.R_drewN | apply Kd.R_drew)); exact HO288.out) hb); have n5_ := Aside0.mk (Kd.R_below (by (with_reducible repeat (first | apply Kd.R_alloc | apply Kd.R_drewN | apply Kd.R_drew)); exact HO291.out) hb); have n6_ := Aside0.mk (Kd.N_lower ho81 (below_size (by repeat (first | (with_reducible first | exact HB.out | apply below_alloc | apply pw_below_drewN | apply below_drew1) | exact HB.out)))); have n7_ := Aside0.mk (below_step (by repeat (first | (with_reducible first | exact HB.out | apply below_alloc | apply pw_below_drewN | apply below_drew1) | exact HB.out)) hb); clear HO_1; clear HO279; clear HO282; clear HO285; clear HO288; clear HO291; clear HB; have HO_1 := n0_; have HO279 := n1_; have HO282 := n2_; have HO285 := n3_; have HO288 := n4_; have HO291 := n5_; have HO295 := n6_; have HB := n7_; clear n0_ n1_ n2_ n3_ n4_ n5_ n6_ n7_; clear hb ho81) | ((with_reducible refine gate_dst (N := 75) rfl ?_); (try (refine gate_guard (by rfl) ?_; dsimp only)); refine Kd.N_lit k42 _ 42 ?hg (N' := 75) ?hd (xs := ([(⟨4, (⟨#[]⟩ : ByteArray), (⟨#[]⟩ : ByteArray), l1⟩ : S42)] : List (S42))) (inner := [.int .i64 4, .string (⟨#[]⟩ : ByteArray), .string (⟨#[]⟩ : ByteArray), .slice A1 l1.length c1]) (ok := (fun k_ => (P1_ k_ ∨ w.heap.size ≤ k_) ∧ some k_ ≠ (v278 : Value).ownBlock ∧ some k_ ≠ (.slice Ao74 y280.length co74 : Value).ownBlock ∧ some k_ ≠ (.slice Ao76 y283.length co76 : Value).ownBlock ∧ some k_ ≠ (.slice Ao78 t286.length co78 : Value).ownBlock ∧ some k_ ≠ (.slice Ao79 t289.length co79 : Value).ownBlock ∧ some k_ ≠ (v294 : Value).ownBlock)) (okp := (fun k_ => (P1_ k_ ∨ w.heap.size ≤ k_) ∧ some k_ ≠ (v278 : Value).ownBlock ∧ some k_ ≠ (.slice Ao74 y280.length co74 : Value).ownBlock ∧ some k_ ≠ (.slice Ao76 y283.length co76 : Value).ownBlock ∧ some k_ ≠ (.slice Ao78 t286.length co78 : Value).ownBlock ∧ some k_ ≠ (.slice Ao79 t289.length co79 : Value).ownBlock ∧ some k_ ≠ (v294 : Value).ownBlock)) ?hr ?hp (fun _ hk => hk) ((show ∀ k_, w80.heap.size ≤ k_ → (fun k_ => (P1_ k_ ∨ w.heap.size ≤ k_) ∧ some k_ ≠ (v278 : Value).ownBlock ∧ some k_ ≠ (.slice Ao74 y280.length co74 : Value).ownBlock ∧ some k_ ≠ (.slice Ao76 y283.length co76 : Value).ownBlock ∧ some k_ ≠ (.slice Ao78 t286.length co78 : Value).ownBlock ∧ some k_ ≠ (.slice Ao79 t289.length co79 : Value).ownBlock ∧ some k_ ≠ (v294 : Value).ownBlock) k_ from fun k_ hk => ⟨(.inr (Nat.le_trans (below_size (by repeat (first | (with_reducible first | exact HB.out | apply below_alloc | apply pw_below_drewN | apply below_drew1) | exact HB.out))) hk)), Kd.fresh' (Kd.R_lt (by (with_reducible repeat (first | apply Kd.R_alloc | apply Kd.R_drewN | apply Kd.R_drew)); exact HO279.out)) k_ hk, Kd.fresh' (Kd.N_lt (by (with_reducible repeat (first | apply Kd.N_alloc | apply Kd.N_drewN | apply Kd.N_drew)); exact HO282.out)) k_ hk, Kd.fresh' (Kd.N_lt (by (with_reducible repeat (first | apply Kd.N_alloc | apply Kd.N_drewN | apply Kd.N_drew)); exact HO285.out)) k_ hk, Kd.fresh' (Kd.R_lt (by (with_reducible repeat (first | apply Kd.R_alloc | apply Kd.R_drewN | apply Kd.R_drew)); exact HO288.out)) k_ hk, Kd.fresh' (Kd.R_lt (by (with_reducible repeat (first | apply Kd.R_alloc | apply Kd.R_drewN | apply Kd.R_drew)); exact HO291.out)) k_ hk, Kd.fresh' (Kd.N_lt (by (with_reducible repeat (first | apply Kd.N_alloc | apply Kd.N_drewN | apply Kd.N_drew)); exact HO295.out)) k_ hk⟩) _ (Nat.le_refl _)) (Below.refl _ _) (Nat.le_refl _) (by simp) ?_; (case hd => rfl); (case hg => rfl); (case hr => first | (go_simp; done) | (go_simp; rfl)); (case hp => first | exact (Reps.c4 (show Kd.FK k42 _ _ (⟨4, (⟨#[]⟩ : ByteArray), (⟨#[]⟩ : ByteArray), l1⟩ : S42) [.int .i64 4, .string (⟨#[]⟩ : ByteArray), .string (⟨#[]⟩ : ByteArray), .slice A1 l1.length c1] from (k42_mkF _ _ (⟨4, (⟨#[]⟩ : ByteArray), (⟨#[]⟩ : ByteArray), l1⟩ : S42) (Kd.V_reads' (Kd.V_mono (ok' := (fun k_ => (P1_ k_ ∨ w.heap.size ≤ k_) ∧ some k_ ≠ (v278 : Value).ownBlock ∧ some k_ ≠ (.slice Ao74 y280.length co74 : Value).ownBlock ∧ some k_ ≠ (.slice Ao76 y283.length co76 : Value).ownBlock ∧ some k_ ≠ (.slice Ao78 t286.length co78 : Value).ownBlock ∧ some k_ ≠ (.slice Ao79 t289.length co79 : Value).ownBlock ∧ some k_ ≠ (v294 : Value).ownBlock)) (HO_1.out) (fun k_ hk => ⟨hk.1.1.1.1.1.1, ⟨hk.1.1.1.1.1.2, ⟨hk.1.1.1.1.2, ⟨hk.1.1.1.2, ⟨hk.1.1.2, ⟨hk.1.2, hk.2⟩⟩⟩⟩⟩⟩))).2.1 (Kd.V_F (Kd.V_mono (ok' := (fun k_ => (P1_ k_ ∨ w.heap.size ≤ k_) ∧ some k_ ≠ (v278 : Value).ownBlock ∧ some k_ ≠ (.slice Ao74 y280.length co74 : Value).ownBlock ∧ some k_ ≠ (.slice Ao76 y283.length co76 : Value).ownBlock ∧ some k_ ≠ (.slice Ao78 t286.length co78 : Value).ownBlock ∧ some k_ ≠ (.slice Ao79 t289.length co79 : Value).ownBlock ∧ some k_ ≠ (v294 : Value).ownBlock)) (HO_1.out) (fun k_ hk => ⟨hk.1.1.1.1.1.1, ⟨hk.1.1.1.1.1.2, ⟨hk.1.1.1.1.2, ⟨hk.1.1.1.2, ⟨hk.1.1.2, ⟨hk.1.2, hk.2⟩⟩⟩⟩⟩⟩))))) (Reps.none _ _)) | exact (Reps.c4 (show Kd.FK k42 _ _ (⟨4, (⟨#[]⟩ : ByteArray), (⟨#[]⟩ : ByteArray), l1⟩ : S42) [.int .i64 4, .string (⟨#[]⟩ : ByteArray), .string (⟨#[]⟩ : ByteArray), .slice A1 l1.length c1] from (k42_mkF _ _ (⟨4, (⟨#[]⟩ : ByteArray), (⟨#[]⟩ : ByteArray), l1⟩ : S42) (Kd.V_reads' (Kd.V_mono (ok' := (fun k_ => (P1_ k_ ∨ w.heap.size ≤ k_) ∧ some k_ ≠ (v278 : Value).ownBlock ∧ some k_ ≠ (.slice Ao74 y280.length co74 : Value).ownBlock ∧ some k_ ≠ (.slice Ao76 y283.length co76 : Value).ownBlock ∧ some k_ ≠ (.slice Ao78 t286.length co78 : Value).ownBlock ∧ some k_ ≠ (.slice Ao79 t289.length co79 : Value).ownBlock ∧ some k_ ≠ (v294 : Value).ownBlock)) (HO_1.out) (fun k_ hk => ⟨hk.1.1.1.1.1.1, ⟨hk.1.1.1.1.1.2, ⟨hk.1.1.1.1.2, ⟨hk.1.1.1.2, ⟨hk.1.1.2, ⟨hk.1.2, hk.2⟩⟩⟩⟩⟩⟩))).2.1 (Kd.V_F (Kd.V_mono (ok' := (fun k_ => (P1_ k_ ∨ w.heap.size ≤ k_) ∧ some k_ ≠ (v278 : Value).ownBlock ∧ some k_ ≠ (.slice Ao74 y280.length co74 : Value).ownBlock ∧ some k_ ≠ (.slice Ao76 y283.length co76 : Value).ownBlock ∧ some k_ ≠ (.slice Ao78 t286.length co78 : Value).ownBlock ∧ some k_ ≠ (.slice Ao79 t289.length co79 : Value).ownBlock ∧ some k_ ≠ (v294 : Value).ownBlock)) (Kd.V_drewN HO_1.out _) (fun k_ hk => ⟨hk.1.1.1.1.1.1, ⟨hk.1.1.1.1.1.2, ⟨hk.1.1.1.1.2, ⟨hk.1.1.1.2, ⟨hk.1.1.2, ⟨hk.1.2, hk.2⟩⟩⟩⟩⟩⟩))))) (Reps.none _ _))); intro v297 w82 ho83 hb hg_ hnew_; clear hg_ hnew_; (first | rw [← Ny296.out] at ho83 | (simp only [Int.reduceToNat] at ho83; rw [← Ny296.out] at ho83)); have n0_ := Aside0.mk (Kd.V_elder' (by (with_reducible repeat (first | apply Kd.V_alloc | apply Kd.V_drewN | apply Kd.V_drew)); exact HO_1.out) (Kd.N_base ho83) hb); have n1_ := Aside0.mk (Kd.R_below (by (with_reducible repeat (first | apply Kd.R_alloc | apply Kd.R_drewN | apply Kd.R_drew)); exact HO279.out) hb); have n2_ := Aside0.mk (Kd.N_elder' (by (with_reducible repeat (first | apply Kd.N_alloc | apply Kd.N_drewN | apply Kd.N_drew)); exact HO282.out) (Kd.N_base ho83) hb); have n3_ := Aside0.mk (Kd.N_elder' (by (with_reducible repeat (first | apply Kd.N_alloc | apply Kd.N_drewN | apply Kd.N_drew)); exact HO285.out) (Kd.N_base ho83) hb); have n4_ := Aside0.mk (Kd.R_below (by (with_reducible repeat (first | apply Kd.R_alloc | apply Kd.R_drewN | apply Kd.R_drew)); exact HO288.out) hb); have n5_ := Aside0.mk (Kd.R_below (by (with_reducible repeat (first | apply Kd.R_alloc | apply Kd.R_drewN | apply Kd.R_drew)); exact HO291.out) hb); have n6_ := Aside0.mk (Kd.N_elder' (by (with_reducible repeat (first | apply Kd.N_alloc | apply Kd.N_drewN | apply Kd.N_drew)); exact HO295.out) (Kd.N_base ho83) hb); have n7_ := Aside0.mk (Kd.N_lower ho83 (below_size (by repeat (first | (with_reducible first | exact HB.out | apply below_alloc | apply pw_below_drewN | apply below_drew1) | exact HB.out)))); have n8_ := Aside0.mk (below_step (by repeat (first | (with_reducible first | exact HB.out | apply below_alloc | apply pw_below_drewN | apply below_drew1) | exact HB.out)) hb); clear HO_1; clear HO279; clear HO282; clear HO285; clear HO288; clear HO291; clear HO295; clear HB; have HO_1 := n0_; have HO279 := n1_; have HO282 := n2_; have HO285 := n3_; have HO288 := n4_; have HO291 := n5_; have HO295 := n6_; have HO298 := n7_; have HB := n8_; clear n0_ n1_ n2_ n3_ n4_ n5_ n6_ n7_ n8_; clear hb ho83; obtain ⟨Ao84, co84, eo84⟩ := Kd.N_slice HO295.out; subst eo84) | ((with_reducible refine gate_callee (f := 14) rfl ?_); refine goesL_ (some 77) rfl rfl Try.func14 (by kernel_rfl) rfl #[.slice Ao84 y293.length co84] rfl (by (try simp only [List.map_toArray, List.map_cons, List.map_nil]); first | done | rfl | (simp only [List.length_drop, List.length_take]; rfl)) ?_; (with_reducible refine (choose_Check.calls kj3 _ _ y293 t299 _ ?side1 ?side2 A27.out).mono ?_); (case side1 => repeat (first | exact (Kd.N_reads' HO295.out).2.2 | (with_reducible refine Kd.C_alloc ?_ _) | (with_reducible refine Kd.C_drewN ?_ _) | (with_reducible refine Kd.C_drew ?_))); (case side2 => exact (Kd.N_reads' HO295.out).2.1); rintro e w85 ⟨rfl, hb⟩; refine ⟨_, rfl, ?_⟩; have n0_ := Aside0.mk (Kd.V_below (by (with_reducible repeat (first | apply Kd.V_alloc | apply Kd.V_drewN | apply Kd.V_drew)); exact HO_1.out) hb); have n1_ := Aside0.mk (Kd.R_below (by (with_reducible repeat (first | apply Kd.R_alloc | apply Kd.R_drewN | apply Kd.R_drew)); exact HO279.out) hb); have n2_ := Aside0.mk (Kd.N_below (by (with_reducible repeat (first | apply Kd.N_alloc | apply Kd.N_drewN | apply Kd.N_drew)); exact HO282.out) hb); have n3_ := Aside0.mk (Kd.N_below (by (with_reducible repeat (first | apply Kd.N_alloc | apply Kd.N_drewN | apply Kd.N_drew)); exact HO285.out) hb); have n4_ := Aside0.mk (Kd.R_below (by (with_reducible repeat (first | apply Kd.R_alloc | apply Kd.R_drewN | apply Kd.R_drew)); exact HO288.out) hb); have n5_ := Aside0.mk (Kd.R_below (by (with_reducible repeat (first | apply Kd.R_alloc | apply Kd.R_drewN | apply Kd.R_drew)); exact HO291.out) hb); have n6_ := Aside0.mk (Kd.N_below (by (with_reducible repeat (first | apply Kd.N_alloc | apply Kd.N_drewN | apply Kd.N_drew)); exact HO295.out) hb); have n7_ := Aside0.mk (Kd.N_below (by (with_reducible repeat (first | apply Kd.N_alloc | apply Kd.N_drewN | apply Kd.N_drew)); exact HO298.out) hb); have n8_ := Aside0.mk (below_step (by repeat (first | (with_reducible first | exact HB.out | apply below_alloc | apply pw_below_drewN | apply below_drew1) | exact HB.out)) hb); clear HO_1; clear HO279; clear HO282; clear HO285; clear HO288; clear HO291; clear HO295; clear HO298; clear HB; have HO_1 := n0_; have HO279 := n1_; have HO282 := n2_; have HO285 := n3_; have HO288 := n4_; have HO291 := n5_; have HO295 := n6_; have HO298 := n7_; have HB := n8_; clear n0_ n1_ n2_ n3_ n4_ n5_ n6_ n7_ n8_; (try clear hb); (try clear hb2); (try clear hk); (try clear hi); obtain ⟨Ao86, co86, eo86⟩ := Kd.N_slice HO298.out; subst eo86) | ((with_reducible refine gate_callee (f := 14) rfl ?_); refine goesL_ (some 80) rfl rfl Try.func14 (by kernel_rfl) rfl #[.slice Ao86 y296.length co86] rfl (by (try simp only [List.map_toArray, List.map_cons, List.map_nil]); first | done | rfl | (simp only [List.length_drop, List.length_take]; rfl)) ?_; (with_reducible refine (choose_Check.calls kj3 _ _ y296 t300 _ ?side1 ?side2 A63.out).mono ?_); (case side1 => repeat (first | exact (Kd.N_reads' HO298.out).2.2 | (with_reducible refine Kd.C_alloc ?_ _) | (with_reducible refine Kd.C_drewN ?_ _) | (with_reducible refine Kd.C_drew ?_))); (case side2 => exact (Kd.N_reads' HO298.out).2.1); rintro e w87 ⟨rfl, hb⟩; refine ⟨_, rfl, ?_⟩; have n0_ := Aside0.mk (Kd.V_below (by (with_reducible repeat (first | apply Kd.V_alloc | apply Kd.V_drewN | apply Kd.V_drew)); exact HO_1.out) hb); have n1_ := Aside0.mk (Kd.R_below (by (with_reducible repeat (first | apply Kd.R_alloc | apply Kd.R_drewN | apply Kd.R_drew)); exact HO279.out) hb); have n2_ := Aside0.mk (Kd.N_below (by (with_reducible repeat (first | apply Kd.N_alloc | apply Kd.N_drewN | apply Kd.N_drew)); exact HO282.out) hb); have n3_ := Aside0.mk (Kd.N_below (by (with_reducible repeat (first | apply Kd.N_alloc | apply Kd.N_drewN | apply Kd.N_drew)); exact HO285.out) hb); have n4_ := Aside0.mk (Kd.R_below (by (with_reducible repeat (first | apply Kd.R_alloc | apply Kd.R_drewN | apply Kd.R_drew)); exact HO288.out) hb); have n5_ := Aside0.mk (Kd.R_below (by (with_reducible repeat (first | apply Kd.R_alloc | apply Kd.R_drewN | apply Kd.R_drew)); exact HO291.out) hb); have n6_ := Aside0.mk (Kd.N_below (by (with_reducible repeat (first | apply Kd.N_alloc | apply Kd.N_drewN | apply Kd.N_drew)); exact HO295.out) hb); have n7_ := Aside0.mk (Kd.N_below (by (with_reducible repeat (first | apply Kd.N_alloc | apply Kd.N_drewN | apply Kd.N_drew)); exact HO298.out) hb); have n8_ := Aside0.mk (below_step (by repeat (first | (with_reducible first | exact HB.out | apply below_alloc | apply pw_below_drewN | apply below_drew1) | exact HB.out)) hb); clear HO_1; clear HO279; clear HO282; clear HO285; clear HO288; clear HO291; clear HO295; clear HO298; clear HB; have HO_1 := n0_; have HO279 := n1_; have HO282 := n2_; have HO285 := n3_; have HO288 := n4_; have HO291 := n5_; have HO295 := n6_; have HO298 := n7_; have HB := n8_; clear n0_ n1_ n2_ n3_ n4_ n5_ n6_ n7_ n8_; (try clear hb); (try clear hb2); (try clear hk); (try clear hi)) | (go_at_call 11; (with_reducible refine (samphirelaw19_awake.calls kj3  t301 _ A65.out).mono ?_); rintro e w88 ⟨rfl, hb⟩; have n0_ := Aside0.mk (Kd.V_below (by (with_reducible repeat (first | apply Kd.V_alloc | apply Kd.V_drewN | apply Kd.V_drew)); exact HO_1.out) hb); have n1_ := Aside0.mk (Kd.R_below (by (with_reducible repeat (first | apply Kd.R_alloc | apply Kd.R_drewN | apply Kd.R_drew)); exact HO279.out) hb); have n2_ := Aside0.mk (Kd.N_below (by (with_reducible repeat (first | apply Kd.N_alloc | apply Kd.N_drewN | apply Kd.N_drew)); exact HO282.out) hb); have n3_ := Aside0.mk (Kd.N_below (by (with_reducible repeat (first | apply Kd.N_alloc | apply Kd.N_drewN | apply Kd.N_drew)); exact HO285.out) hb); have n4_ := Aside0.mk (Kd.R_below (by (with_reducible repeat (first | apply Kd.R_alloc | apply Kd.R_drewN | apply Kd.R_drew)); exact HO288.out) hb); have n5_ := Aside0.mk (Kd.R_below (by (with_reducible repeat (first | apply Kd.R_alloc | apply Kd.R_drewN | apply Kd.R_drew)); exact HO291.out) hb); have n6_ := Aside0.mk (Kd.N_below (by (with_reducible repeat (first | apply Kd.N_alloc | apply Kd.N_drewN | apply Kd.N_drew)); exact HO295.out) hb); have n7_ := Aside0.mk (Kd.N_below (by (with_reducible repeat (first | apply Kd.N_alloc | apply Kd.N_drewN | apply Kd.N_drew)); exact HO298.out) hb); have n8_ := Aside0.mk (below_step (by repeat (first | (with_reducible first | exact HB.out | apply below_alloc | apply pw_below_drewN | apply below_drew1) | exact HB.out)) hb); clear HO_1; clear HO279; clear HO282; clear HO285; clear HO288; clear HO291; clear HO295; clear HO298; clear HB; have HO_1 := n0_; have HO279 := n1_; have HO282 := n2_; have HO285 := n3_; have HO288 := n4_; have HO291 := n5_; have HO295 := n6_; have HO298 := n7_; have HB := n8_; clear n0_ n1_ n2_ n3_ n4_ n5_ n6_ n7_ n8_; (try clear hb); (try clear hb2); (try clear hk); (try clear hi)))
                      go_ret
                      exact ⟨by first | rfl | (simp [errW_none, errW_some] <;> rfl) | (simp only [← hji17]; first | rfl | (simp [errW_none, errW_some] <;> rfl)) | (simp [*, errW_none, errW_some] <;> rfl), by repeat (first | (with_reducible first | exact HB.out | apply below_alloc | apply pw_below_drewN | apply below_drew1) | exact HB.out)⟩
                    · rw [if_neg c64] at H
                      have c64b0 : (t300 == 1) = false := beq_eq_false_iff_ne.mpr c64
                      have c64b1 : (t300 != 1) = true := bne_iff_ne.mpr c64
                      obtain rfl := Option.some.inj H
                      try go_wp2
                      have n0_ := Aside0.mk (Kd.V_drew HO_1.out)
                      have n1_ := Aside0.mk (below_drew1 HB.out)
                      clear HO_1
                      clear HB
                      have HO_1 := n0_
                      have HB := n1_
                      clear n0_ n1_
                      have p21 : 0 ≤ ((ji17) : Int) := of_decide_eq_true (by first | (with_reducible assumption) | assumption)
                      have q21 : (ji17) < (a0.size : Int) := of_decide_eq_true (by first | (with_reducible assumption) | assumption)
                      have hx21 := bt_at a0 (ji17)
                      replace p21 := eq_true p21
                      replace q21 := eq_true q21
                      refine start_ (n := 15) (S := fun w' => True) (ds := []) #[false, false, false, false, false, false, false, false, false, false, false, false, false, false, false] (by kernel_rfl) rfl rfl trivial (fun hHeld => ?_); refine with_tabW samphirelaw19_ChooseParts.tab3 samphirelaw19_ChooseParts.bits3 (fun HT_ HW_ => ?_)
                      generalize wc.drew = w89 at HO_1 HB hHeld ⊢
                      refine pure_ (i := 0) (N := some 41) (v := ?_) (a' := ?_) #[true, false, false, false, false, false, false, false, false, false, false, false, false, false, false] rfl rfl (any_of HT_.out (by kernel_rfl)) (fun _ _ _ h => h) (Or.inl ⟨by rfl, ?_⟩) ?_ ?_
                      rotate_left
                      · intro w'
                        go_simp
                        with_reducible rfl
                      rotate_left
                      · simp only [Act.put, List.setIfInBounds_toArray, List.set_cons_zero, List.set_cons_succ, i64_w, i32_w]
                        rfl
                      refine pure_ (i := 1) (N := some 42) (v := ?_) (a' := ?_) #[true, true, false, false, false, false, false, false, false, false, false, false, false, false, false] rfl rfl (any_of HT_.out (by kernel_rfl)) (fun _ _ _ h => h) (Or.inl ⟨by rfl, ?_⟩) ?_ ?_
                      rotate_left
                      · intro w'
                        go_simp
                        with_reducible rfl
                      rotate_left
                      · simp only [Act.put, List.setIfInBounds_toArray, List.set_cons_zero, List.set_cons_succ, i64_w, i32_w]
                        rfl
                      refine pure_ (i := 2) (N := some 43) (v := ?_) (a' := ?_) #[true, true, true, false, false, false, false, false, false, false, false, false, false, false, false] rfl rfl (any_of HT_.out (by kernel_rfl)) (fun _ _ _ h => h) (Or.inl ⟨by rfl, ?_⟩) ?_ ?_
                      rotate_left
                      · intro w'
                        go_simp
                        with_reducible rfl
                      rotate_left
                      · simp only [Act.put, List.setIfInBounds_toArray, List.set_cons_zero, List.set_cons_succ, i64_w, i32_w]
                        rfl
                      refine pure_ (i := 3) (N := some 44) (v := ?_) (a' := ?_) #[true, true, true, true, false, false, false, false, false, false, false, false, false, false, false] rfl rfl (any_of HT_.out (by kernel_rfl)) (fun _ _ _ h => h) (Or.inl ⟨by rfl, ?_⟩) ?_ ?_
                      rotate_left
                      · intro w'
                        go_simp
                        with_reducible rfl
                      rotate_left
                      · simp only [Act.put, List.setIfInBounds_toArray, List.set_cons_zero, List.set_cons_succ, i64_w, i32_w]
                        rfl
                      refine pure_ (i := 4) (N := some 45) (v := ?_) (a' := ?_) #[true, true, true, true, true, false, false, false, false, false, false, false, false, false, false] rfl rfl (any_of HT_.out (by kernel_rfl)) (fun _ _ _ h => h) (Or.inl ⟨by rfl, ?_⟩) ?_ ?_
                      rotate_left
                      · intro w'
                        go_simp
                        with_reducible rfl
                      rotate_left
                      · simp only [Act.put, List.setIfInBounds_toArray, List.set_cons_zero, List.set_cons_succ, i64_w, i32_w]
                        rfl
                      refine pure_ (i := 5) (N := some 46) (v := ?_) (a' := ?_) #[true, true, true, true, true, true, false, false, false, false, false, false, false, false, false] rfl rfl (any_of HT_.out (by kernel_rfl)) (fun _ _ _ h => h) (Or.inl ⟨by rfl, ?_⟩) ?_ ?_
                      rotate_left
                      · intro w'
                        go_simp
                        with_reducible rfl
                      rotate_left
                      · simp only [Act.put, List.setIfInBounds_toArray, List.set_cons_zero, List.set_cons_succ, i64_w, i32_w]
                        rfl
                      refine pure_ (i := 6) (N := some 47) (v := ?_) (a' := ?_) #[true, true, true, true, true, true, true, false, false, false, false, false, false, false, false] rfl rfl (any_of HT_.out (by kernel_rfl)) (fun _ _ _ h => h) (Or.inl ⟨by rfl, ?_⟩) ?_ ?_
                      rotate_left
                      · intro w'
                        go_simp
                        with_reducible rfl
                      rotate_left
                      · simp only [Act.put, List.setIfInBounds_toArray, List.set_cons_zero, List.set_cons_succ, i64_w, i32_w]
                        rfl
                      refine pure_ (i := 7) (N := some 48) (v := ?_) (a' := ?_) #[true, true, true, true, true, true, true, true, false, false, false, false, false, false, false] rfl rfl (any_of HT_.out (by kernel_rfl)) (fun _ _ _ h => h) (Or.inl ⟨by rfl, ?_⟩) ?_ ?_
                      rotate_left
                      · intro w'
                        go_simp
                        with_reducible rfl
                      rotate_left
                      · simp only [Act.put, List.setIfInBounds_toArray, List.set_cons_zero, List.set_cons_succ, i64_w, i32_w]
                        rfl
                      refine pure_ (i := 8) (N := some 49) (v := ?_) (a' := ?_) #[true, true, true, true, true, true, true, true, true, false, false, false, false, false, false] rfl rfl (any_of HT_.out (by kernel_rfl)) (fun _ _ _ h => h) (Or.inl ⟨by rfl, ?_⟩) ?_ ?_
                      rotate_left
                      · intro w'
                        go_simp
                        with_reducible rfl
                      rotate_left
                      · simp only [Act.put, List.setIfInBounds_toArray, List.set_cons_zero, List.set_cons_succ, i64_w, i32_w]
                        rfl
                      refine take_ (i := 9) (N := some 50) (v := ?_) (a' := ?_) #[true, true, true, true, true, true, true, true, true, true, false, false, false, false, false] rfl rfl (take_ofW HT_.out HW_.out (by kernel_rfl)) (fun _ _ _ h => h) (Or.inl ⟨by rfl, ?_⟩) hHeld ?_ ?_
                      rotate_left
                      · intro w' _
                        go_simp
                        with_reducible rfl
                      rotate_left
                      · simp only [Act.put, List.setIfInBounds_toArray, List.set_cons_zero, List.set_cons_succ, i64_w, i32_w]
                        rfl
                      refine pure_ (i := 10) (N := some 51) (v := ?_) (a' := ?_) #[true, true, true, true, true, true, true, true, true, true, true, false, false, false, false] rfl rfl (any_of HT_.out (by kernel_rfl)) (fun _ _ _ h => h) (Or.inl ⟨by rfl, ?_⟩) ?_ ?_
                      rotate_left
                      · intro w'
                        go_simp
                        with_reducible rfl
                      rotate_left
                      · simp only [Act.put, List.setIfInBounds_toArray, List.set_cons_zero, List.set_cons_succ, i64_w, i32_w]
                        rfl
                      refine one_ (i := 11) (N := some 52) #[true, true, true, true, true, true, true, true, true, true, true, true, false, false, false] rfl rfl (one_of HT_.out (by kernel_rfl)) (by decide) (fun K hK => ?_)
                      refine Kd.R_lit_step (Kd.int .u8) _ 5 ?hg (N := 52) ?hd (xs := ([((bt a0 (ji17)) + 1) % 256] : List Int)) (inner := [.int .u8 (((bt a0 (ji17)) + 1) % 256)]) (ok := fun _ => True) (okp := fun _ => True) ?hr ?hp (fun _ hk => hk) trivial (Below.refl _ _) (Nat.le_refl _) (by simp) ?_; (case hd => rfl); (case hg => rfl); (case hr => first | (go_simp; done) | (go_simp; rfl)); (case hp => exact (Reps.one (show Kd.M (Kd.int .u8) _ _ _ (((bt a0 (ji17)) + 1) % 256) [.int .u8 (((bt a0 (ji17)) + 1) % 256)] from rfl) (Reps.none _ _)))
                      intro v278 w90 ho91 hb hg_ hnew_
                      clear hg_ hnew_
                      (first | rw [← Ny277.out] at ho91 | (simp only [Int.reduceToNat] at ho91; rw [← Ny277.out] at ho91))
                      have n0_ := Aside0.mk (Kd.V_elder' (by (with_reducible repeat (first | apply Kd.V_alloc | apply Kd.V_drewN | apply Kd.V_drew)); exact HO_1.out) (Kd.R_base ho91) hb)
                      have n1_ := Aside0.mk (Kd.R_lower (Kd.R_newM (M := fun k_ => (w.heap.size ≤ k_)) ho91 (below_size (by repeat (first | (with_reducible first | exact HB.out | apply below_alloc | apply pw_below_drewN | apply below_drew1) | exact HB.out))) (fun k_ h_ => h_)) (below_size (by repeat (first | (with_reducible first | exact HB.out | apply below_alloc | apply pw_below_drewN | apply below_drew1) | exact HB.out))))
                      have n2_ := Aside0.mk (below_step (by repeat (first | (with_reducible first | exact HB.out | apply below_alloc | apply pw_below_drewN | apply below_drew1) | exact HB.out)) hb)
                      clear HO_1
                      clear HB
                      have HO_1 := n0_
                      have HO279 := n1_
                      have HB := n2_
                      clear n0_ n1_ n2_
                      clear hb ho91
                      refine hK.out _ _ trivial (fun hHeld => ?_)
                      clear hK K
                      refine norm_ (a' := ?_) ?_ ?_
                      rotate_left
                      · show Act.put _ (some 52) _ = _
                        simp only [Act.put, List.setIfInBounds_toArray, List.set_cons_zero, List.set_cons_succ, i64_w, i32_w]
                        rfl
                      refine one_ (i := 12) (N := some 53) #[true, true, true, true, true, true, true, true, true, true, true, true, true, false, false] rfl rfl (one_of HT_.out (by kernel_rfl)) (by decide) (fun K hK => ?_)
                      have hcv92 := own_string (P := Try.prog) Try.underlying40 Try.underlying5 Try.underlying9 (Kd.own_of_R HO279.out)
                      refine value_ (w1 := ?_) (v := ?_) (by rfl) rfl ?_ ?_
                      rotate_left 2
                      · go_simp
                        constructor
                        · rfl
                        · rfl
                      clear hcv92
                      refine hK.out _ _ trivial (fun hHeld => ?_)
                      clear hK K
                      refine norm_ (a' := ?_) ?_ ?_
                      rotate_left
                      · show Act.put _ (some 53) _ = _
                        simp only [Act.put, List.setIfInBounds_toArray, List.set_cons_zero, List.set_cons_succ, i64_w, i32_w]
                        rfl
                      refine pure_ (i := 13) (N := some 54) (v := ?_) (a' := ?_) #[true, true, true, true, true, true, true, true, true, true, true, true, true, true, false] rfl rfl (any_of HT_.out (by kernel_rfl)) (fun _ _ _ h => h) (Or.inl ⟨by rfl, ?_⟩) ?_ ?_
                      rotate_left
                      · intro w'
                        go_simp
                        with_reducible rfl
                      rotate_left
                      · simp only [Act.put, List.setIfInBounds_toArray, List.set_cons_zero, List.set_cons_succ, i64_w, i32_w]
                        rfl
                      refine pure_ (i := 14) (N := some 7) (v := ?_) (a' := ?_) #[true, true, true, true, true, true, true, true, true, true, true, true, true, true, true] rfl rfl (any_of HT_.out (by kernel_rfl)) (fun _ _ _ h => h) (Or.inl ⟨by rfl, ?_⟩) ?_ ?_
                      rotate_left
                      · intro w'
                        go_simp
                        with_reducible rfl
                      rotate_left
                      · simp only [Act.put, List.setIfInBounds_toArray, List.set_cons_zero, List.set_cons_succ, i64_w, i32_w]
                        rfl
                      refine done_ (done_of HT_.out (by kernel_rfl)) ?_
                      try go_wp2_with (first | ((with_reducible refine gate_dst (N := 57) rfl ?_); (try (refine gate_guard (by rfl) ?_; dsimp only)); refine Kd.N_lit k42 _ 42 ?hg (N' := 57) ?hd (xs := ([(⟨1, a0, (⟨#[]⟩ : ByteArray), ([] : List ByteArray)⟩ : S42)] : List (S42))) (inner := [.int .i64 1, .string a0, .string (⟨#[]⟩ : ByteArray), .slice none 0 0]) (ok := (fun k_ => (P1_ k_ ∨ w.heap.size ≤ k_) ∧ some k_ ≠ (v278 : Value).ownBlock)) (okp := (fun k_ => (P1_ k_ ∨ w.heap.size ≤ k_) ∧ some k_ ≠ (v278 : Value).ownBlock)) ?hr ?hp (fun _ hk => hk) ((show ∀ k_, w90.heap.size ≤ k_ → (fun k_ => (P1_ k_ ∨ w.heap.size ≤ k_) ∧ some k_ ≠ (v278 : Value).ownBlock) k_ from fun k_ hk => ⟨(.inr (Nat.le_trans (below_size (by repeat (first | (with_reducible first | exact HB.out | apply below_alloc | apply pw_below_drewN | apply below_drew1) | exact HB.out))) hk)), Kd.fresh' (Kd.R_lt (by (with_reducible repeat (first | apply Kd.R_alloc | apply Kd.R_drewN | apply Kd.R_drew)); exact HO279.out)) k_ hk⟩) _ (Nat.le_refl _)) (Below.refl _ _) (Nat.le_refl _) (by simp) ?_; (case hd => rfl); (case hg => rfl); (case hr => first | (go_simp; done) | (go_simp; rfl)); (case hp => exact (Reps.c4 (show Kd.FK k42 _ _ (⟨1, a0, (⟨#[]⟩ : ByteArray), ([] : List ByteArray)⟩ : S42) [.int .i64 1, .string a0, .string (⟨#[]⟩ : ByteArray), .slice none 0 0] from (k42_mkF _ _ (⟨1, a0, (⟨#[]⟩ : ByteArray), ([] : List ByteArray)⟩ : S42) (Nat.le_refl _) (Kd.F_nil _ _ _))) (Reps.none _ _))); intro v281 w93 ho94 hb hg_ hnew_; clear hg_ hnew_; (first | rw [← Ny280.out] at ho94 | (simp only [Int.reduceToNat] at ho94; rw [← Ny280.out] at ho94)); have n0_ := Aside0.mk (Kd.V_elder' (by (with_reducible repeat (first | apply Kd.V_alloc | apply Kd.V_drewN | apply Kd.V_drew)); exact HO_1.out) (Kd.N_base ho94) hb); have n1_ := Aside0.mk (Kd.R_below (by (with_reducible repeat (first | apply Kd.R_alloc | apply Kd.R_drewN | apply Kd.R_drew)); exact HO279.out) hb); have n2_ := Aside0.mk (Kd.N_lower ho94 (below_size (by repeat (first | (with_reducible first | exact HB.out | apply below_alloc | apply pw_below_drewN | apply below_drew1) | exact HB.out)))); have n3_ := Aside0.mk (below_step (by repeat (first | (with_reducible first | exact HB.out | apply below_alloc | apply pw_below_drewN | apply below_drew1) | exact HB.out)) hb); clear HO_1; clear HO279; clear HB; have HO_1 := n0_; have HO279 := n1_; have HO282 := n2_; have HB := n3_; clear n0_ n1_ n2_ n3_; clear hb ho94) | ((with_reducible refine gate_dst (N := 61) rfl ?_); (try (refine gate_guard (by rfl) ?_; dsimp only)); refine Kd.N_lit k42 _ 42 ?hg (N' := 61) ?hd (xs := ([(⟨2, a0, (a0.extract 0 ((ji17) : Int).toNat) ++ (strOfNums y277), ([] : List ByteArray)⟩ : S42)] : List (S42))) (inner := [.int .i64 2, .string a0, .string ((a0.extract 0 ((ji17) : Int).toNat) ++ (strOfNums y277)), .slice none 0 0]) (ok := (fun k_ => (P1_ k_ ∨ w.heap.size ≤ k_) ∧ some k_ ≠ (v278 : Value).ownBlock ∧ some k_ ≠ (v281 : Value).ownBlock)) (okp := (fun k_ => (P1_ k_ ∨ w.heap.size ≤ k_) ∧ some k_ ≠ (v278 : Value).ownBlock ∧ some k_ ≠ (v281 : Value).ownBlock)) ?hr ?hp (fun _ hk => hk) ((show ∀ k_, w93.heap.size ≤ k_ → (fun k_ => (P1_ k_ ∨ w.heap.size ≤ k_) ∧ some k_ ≠ (v278 : Value).ownBlock ∧ some k_ ≠ (v281 : Value).ownBlock) k_ from fun k_ hk => ⟨(.inr (Nat.le_trans (below_size (by repeat (first | (with_reducible first | exact HB.out | apply below_alloc | apply pw_below_drewN | apply below_drew1) | exact HB.out))) hk)), Kd.fresh' (Kd.R_lt (by (with_reducible repeat (first | apply Kd.R_alloc | apply Kd.R_drewN | apply Kd.R_drew)); exact HO279.out)) k_ hk, Kd.fresh' (Kd.N_lt (by (with_reducible repeat (first | apply Kd.N_alloc | apply Kd.N_drewN | apply Kd.N_drew)); exact HO282.out)) k_ hk⟩) _ (Nat.le_refl _)) (Below.refl _ _) (Nat.le_refl _) (by simp) ?_; (case hd => rfl); (case hg => rfl); (case hr => first | (go_simp; done) | (go_simp; rfl)); (case hp => exact (Reps.c4 (show Kd.FK k42 _ _ (⟨2, a0, (a0.extract 0 ((ji17) : Int).toNat) ++ (strOfNums y277), ([] : List ByteArray)⟩ : S42) [.int .i64 2, .string a0, .string ((a0.extract 0 ((ji17) : Int).toNat) ++ (strOfNums y277)), .slice none 0 0] from (k42_mkF _ _ (⟨2, a0, (a0.extract 0 ((ji17) : Int).toNat) ++ (strOfNums y277), ([] : List ByteArray)⟩ : S42) (Nat.le_refl _) (Kd.F_nil _ _ _))) (Reps.none _ _))); intro v284 w95 ho96 hb hg_ hnew_; clear hg_ hnew_; (first | rw [← Ny283.out] at ho96 | (simp only [Int.reduceToNat] at ho96; rw [← Ny283.out] at ho96)); have n0_ := Aside0.mk (Kd.V_elder' (by (with_reducible repeat (first | apply Kd.V_alloc | apply Kd.V_drewN | apply Kd.V_drew)); exact HO_1.out) (Kd.N_base ho96) hb); have n1_ := Aside0.mk (Kd.R_below (by (with_reducible repeat (first | apply Kd.R_alloc | apply Kd.R_drewN | apply Kd.R_drew)); exact HO279.out) hb); have n2_ := Aside0.mk (Kd.N_elder' (by (with_reducible repeat (first | apply Kd.N_alloc | apply Kd.N_drewN | apply Kd.N_drew)); exact HO282.out) (Kd.N_base ho96) hb); have n3_ := Aside0.mk (Kd.N_lower ho96 (below_size (by repeat (first | (with_reducible first | exact HB.out | apply below_alloc | apply pw_below_drewN | apply below_drew1) | exact HB.out)))); have n4_ := Aside0.mk (below_step (by repeat (first | (with_reducible first | exact HB.out | apply below_alloc | apply pw_below_drewN | apply below_drew1) | exact HB.out)) hb); clear HO_1; clear HO279; clear HO282; clear HB; have HO_1 := n0_; have HO279 := n1_; have HO282 := n2_; have HO285 := n3_; have HB := n4_; clear n0_ n1_ n2_ n3_ n4_; clear hb ho96; obtain ⟨Ao97, co97, eo97⟩ := Kd.N_slice HO282.out; subst eo97) | ((with_reducible refine gate_callee (f := 17) rfl ?_); refine goesL_ (some 64) rfl rfl Try.func17 (by kernel_rfl) rfl #[.slice Ao97 y280.length co97, .slice A2 l2.length c2] rfl (by (try simp only [List.map_toArray, List.map_cons, List.map_nil]); first | done | rfl | (simp only [List.length_drop, List.length_take]; rfl)) ?_; (with_reducible refine (choose_Keys.calls kj3 _ _ y280 _ _ l2 t286 _ ?side1 ?side2 ?side3 ?side4 A23.out).mono ?_); (case side1 => repeat (first | exact (Kd.N_reads' HO282.out).2.2 | (with_reducible refine Kd.C_alloc ?_ _) | (with_reducible refine Kd.C_drewN ?_ _) | (with_reducible refine Kd.C_drew ?_))); (case side2 => exact (Kd.N_reads' HO282.out).2.1); (case side3 => repeat (first | exact (Kd.C_below HR2.out HB.out) | (with_reducible refine Kd.C_alloc ?_ _) | (with_reducible refine Kd.C_drewN ?_ _) | (with_reducible refine Kd.C_drew ?_))); (case side4 => exact HC2.out); rintro e w98 ⟨v287, rfl, ho0, hb⟩; refine ⟨_, rfl, ?_⟩; have n0_ := Aside0.mk (Kd.V_elder' (by (with_reducible repeat (first | apply Kd.V_alloc | apply Kd.V_drewN | apply Kd.V_drew)); exact HO_1.out) (Kd.R_base ho0) hb); have n1_ := Aside0.mk (Kd.R_below (by (with_reducible repeat (first | apply Kd.R_alloc | apply Kd.R_drewN | apply Kd.R_drew)); exact HO279.out) hb); have n2_ := Aside0.mk (Kd.N_elder' (by (with_reducible repeat (first | apply Kd.N_alloc | apply Kd.N_drewN | apply Kd.N_drew)); exact HO282.out) (Kd.R_base ho0) hb); have n3_ := Aside0.mk (Kd.N_elder' (by (with_reducible repeat (first | apply Kd.N_alloc | apply Kd.N_drewN | apply Kd.N_drew)); exact HO285.out) (Kd.R_base ho0) hb); have n4_ := Aside0.mk (Kd.R_lower (Kd.R_newM (M := fun k_ => (w.heap.size ≤ k_)) ho0 (below_size (by repeat (first | (with_reducible first | exact HB.out | apply below_alloc | apply pw_below_drewN | apply below_drew1) | exact HB.out))) (fun k_ h_ => h_)) (below_size (by repeat (first | (with_reducible first | exact HB.out | apply below_alloc | apply pw_below_drewN | apply below_drew1) | exact HB.out)))); have n5_ := Aside0.mk (below_step (by repeat (first | (with_reducible first | exact HB.out | apply below_alloc | apply pw_below_drewN | apply below_drew1) | exact HB.out)) hb); clear HO_1; clear HO279; clear HO282; clear HO285; clear HB; have HO_1 := n0_; have HO279 := n1_; have HO282 := n2_; have HO285 := n3_; have HO288 := n4_; have HB := n5_; clear n0_ n1_ n2_ n3_ n4_ n5_; (try clear hb); (try clear hb2); (try clear hk); (try clear hi); (try clear ho0); obtain ⟨Ao99, co99, eo99⟩ := Kd.N_slice HO285.out; subst eo99) | ((with_reducible refine gate_callee (f := 17) rfl ?_); refine goesL_ (some 67) rfl rfl Try.func17 (by kernel_rfl) rfl #[.slice Ao99 y283.length co99, .slice A2 l2.length c2] rfl (by (try simp only [List.map_toArray, List.map_cons, List.map_nil]); first | done | rfl | (simp only [List.length_drop, List.length_take]; rfl)) ?_; (with_reducible refine (choose_Keys.calls kj3 _ _ y283 _ _ l2 t289 _ ?side1 ?side2 ?side3 ?side4 A24.out).mono ?_); (case side1 => repeat (first | exact (Kd.N_reads' HO285.out).2.2 | (with_reducible refine Kd.C_alloc ?_ _) | (with_reducible refine Kd.C_drewN ?_ _) | (with_reducible refine Kd.C_drew ?_))); (case side2 => exact (Kd.N_reads' HO285.out).2.1); (case side3 => repeat (first | exact (Kd.C_below HR2.out HB.out) | (with_reducible refine Kd.C_alloc ?_ _) | (with_reducible refine Kd.C_drewN ?_ _) | (with_reducible refine Kd.C_drew ?_))); (case side4 => exact HC2.out); rintro e w100 ⟨v290, rfl, ho0, hb⟩; refine ⟨_, rfl, ?_⟩; have n0_ := Aside0.mk (Kd.V_elder' (by (with_reducible repeat (first | apply Kd.V_alloc | apply Kd.V_drewN | apply Kd.V_drew)); exact HO_1.out) (Kd.R_base ho0) hb); have n1_ := Aside0.mk (Kd.R_below (by (with_reducible repeat (first | apply Kd.R_alloc | apply Kd.R_drewN | apply Kd.R_drew)); exact HO279.out) hb); have n2_ := Aside0.mk (Kd.N_elder' (by (with_reducible repeat (first | apply Kd.N_alloc | apply Kd.N_drewN | apply Kd.N_drew)); exact HO282.out) (Kd.R_base ho0) hb); have n3_ := Aside0.mk (Kd.N_elder' (by (with_reducible repeat (first | apply Kd.N_alloc | apply Kd.N_drewN | apply Kd.N_drew)); exact HO285.out) (Kd.R_base ho0) hb); have n4_ := Aside0.mk (Kd.R_elder' (by (with_reducible repeat (first | apply Kd.R_alloc | apply Kd.R_drewN | apply Kd.R_drew)); exact HO288.out) (Kd.R_base ho0) hb); have n5_ := Aside0.mk (Kd.R_lower (Kd.R_new' (Kd.R_newM (M := fun k_ => (w.heap.size ≤ k_)) ho0 (below_size (by repeat (first | (with_reducible first | exact HB.out | apply below_alloc | apply pw_below_drewN | apply below_drew1) | exact HB.out))) (fun k_ h_ => h_)) (Kd.R_lt (by (with_reducible repeat (first | apply Kd.R_alloc | apply Kd.R_drewN | apply Kd.R_drew)); exact HO288.out))) (below_size (by repeat (first | (with_reducible first | exact HB.out | apply below_alloc | apply pw_below_drewN | apply below_drew1) | exact HB.out)))); have n6_ := Aside0.mk (below_step (by repeat (first | (with_reducible first | exact HB.out | apply below_alloc | apply pw_below_drewN | apply below_drew1) | exact HB.out)) hb); clear HO_1; clear HO279; clear HO282; clear HO285; clear HO288; clear HB; have HO_1 := n0_; have HO279 := n1_; have HO282 := n2_; have HO285 := n3_; have HO288 := n4_; have HO291 := n5_; have HB := n6_; clear n0_ n1_ n2_ n3_ n4_ n5_ n6_; (try clear hb); (try clear hb2); (try clear hk); (try clear hi); (try clear ho0); obtain ⟨Ao101, co101, eo101⟩ := Kd.R_slice HO288.out; subst eo101; obtain ⟨Ao102, co102, eo102⟩ := Kd.R_slice HO291.out; subst eo102) | ((with_reducible refine gate_callee (f := 16) rfl ?_); refine goesL_ (some 68) rfl rfl Try.func16 (by kernel_rfl) rfl #[.slice Ao101 t286.length co101, .slice Ao102 t289.length co102] rfl (by (try simp only [List.map_toArray, List.map_cons, List.map_nil]); first | done | rfl | (simp only [List.length_drop, List.length_take]; rfl)) ?_; (with_reducible refine (samphireref16_Strings.calls kj3 _ _ t286 _ _ t289 true _ ?side1 ?side2 ?side3 ?side4 A25.out).mono ?_); (case side1 => repeat (first | exact (Kd.R_reads' HO288.out).2.2 | (with_reducible refine Kd.C_alloc ?_ _) | (with_reducible refine Kd.C_drewN ?_ _) | (with_reducible refine Kd.C_drew ?_))); (case side2 => exact (Kd.R_reads' HO288.out).2.1); (case side3 => repeat (first | exact (Kd.R_reads' HO291.out).2.2 | (with_reducible refine Kd.C_alloc ?_ _) | (with_reducible refine Kd.C_drewN ?_ _) | (with_reducible refine Kd.C_drew ?_))); (case side4 => exact (Kd.R_reads' HO291.out).2.1); rintro e w' ⟨rfl, ⟨nd, rfl⟩⟩; refine ⟨_, rfl, ?_⟩) | ((with_reducible refine gate_dst (N := 72) rfl ?_); (try (refine gate_guard (by rfl) ?_; dsimp only)); refine Kd.N_lit k42 _ 42 ?hg (N' := 72) ?hd (xs := ([(⟨3, (⟨#[]⟩ : ByteArray), (⟨#[]⟩ : ByteArray), l1⟩ : S42)] : List (S42))) (inner := [.int .i64 3, .string (⟨#[]⟩ : ByteArray), .string (⟨#[]⟩ : ByteArray), .slice A1 l1.length c1]) (ok := (fun k_ => (P1_ k_ ∨ w.heap.size ≤ k_) ∧ some k_ ≠ (v278 : Value).ownBlock ∧ some k_ ≠ (.slice Ao97 y280.length co97 : Value).ownBlock ∧ some k_ ≠ (.slice Ao99 y283.length co99 : Value).ownBlock ∧ some k_ ≠ (.slice Ao101 t286.length co101 : Value).ownBlock ∧ some k_ ≠ (.slice Ao102 t289.length co102 : Value).ownBlock)) (okp := (fun k_ => (P1_ k_ ∨ w.heap.size ≤ k_) ∧ some k_ ≠ (v278 : Value).ownBlock ∧ some k_ ≠ (.slice Ao97 y280.length co97 : Value).ownBlock ∧ some k_ ≠ (.slice Ao99 y283.length co99 : Value).ownBlock ∧ some k_ ≠ (.slice Ao101 t286.length co101 : Value).ownBlock ∧ some k_ ≠ (.slice Ao102 t289.length co102 : Value).ownBlock)) ?hr ?hp (fun _ hk => hk) ((show ∀ k_, w100.heap.size ≤ k_ → (fun k_ => (P1_ k_ ∨ w.heap.size ≤ k_) ∧ some k_ ≠ (v278 : Value).ownBlock ∧ some k_ ≠ (.slice Ao97 y280.length co97 : Value).ownBlock ∧ some k_ ≠ (.slice Ao99 y283.length co99 : Value).ownBlock ∧ some k_ ≠ (.slice Ao101 t286.length co101 : Value).ownBlock ∧ some k_ ≠ (.slice Ao102 t289.length co102 : Value).ownBlock) k_ from fun k_ hk => ⟨(.inr (Nat.le_trans (below_size (by repeat (first | (with_reducible first | exact HB.out | apply below_alloc | apply pw_below_drewN | apply below_drew1) | exact HB.out))) hk)), Kd.fresh' (Kd.R_lt (by (with_reducible repeat (first | apply Kd.R_alloc | apply Kd.R_drewN | apply Kd.R_drew)); exact HO279.out)) k_ hk, Kd.fresh' (Kd.N_lt (by (with_reducible repeat (first | apply Kd.N_alloc | apply Kd.N_drewN | apply Kd.N_drew)); exact HO282.out)) k_ hk, Kd.fresh' (Kd.N_lt (by (with_reducible repeat (first | apply Kd.N_alloc | apply Kd.N_drewN | apply Kd.N_drew)); exact HO285.out)) k_ hk, Kd.fresh' (Kd.R_lt (by (with_reducible repeat (first | apply Kd.R_alloc | apply Kd.R_drewN | apply Kd.R_drew)); exact HO288.out)) k_ hk, Kd.fresh' (Kd.R_lt (by (with_reducible repeat (first | apply Kd.R_alloc | apply Kd.R_drewN | apply Kd.R_drew)); exact HO291.out)) k_ hk⟩) _ (Nat.le_refl _)) (Below.refl _ _) (Nat.le_refl _) (by simp) ?_; (case hd => rfl); (case hg => rfl); (case hr => first | (go_simp; done) | (go_simp; rfl)); (case hp => first | exact (Reps.c4 (show Kd.FK k42 _ _ (⟨3, (⟨#[]⟩ : ByteArray), (⟨#[]⟩ : ByteArray), l1⟩ : S42) [.int .i64 3, .string (⟨#[]⟩ : ByteArray), .string (⟨#[]⟩ : ByteArray), .slice A1 l1.length c1] from (k42_mkF _ _ (⟨3, (⟨#[]⟩ : ByteArray), (⟨#[]⟩ : ByteArray), l1⟩ : S42) (Kd.V_reads' (Kd.V_mono (ok' := (fun k_ => (P1_ k_ ∨ w.heap.size ≤ k_) ∧ some k_ ≠ (v278 : Value).ownBlock ∧ some k_ ≠ (.slice Ao97 y280.length co97 : Value).ownBlock ∧ some k_ ≠ (.slice Ao99 y283.length co99 : Value).ownBlock ∧ some k_ ≠ (.slice Ao101 t286.length co101 : Value).ownBlock ∧ some k_ ≠ (.slice Ao102 t289.length co102 : Value).ownBlock)) (HO_1.out) (fun k_ hk => ⟨hk.1.1.1.1.1, ⟨hk.1.1.1.1.2, ⟨hk.1.1.1.2, ⟨hk.1.1.2, ⟨hk.1.2, hk.2⟩⟩⟩⟩⟩))).2.1 (Kd.V_F (Kd.V_mono (ok' := (fun k_ => (P1_ k_ ∨ w.heap.size ≤ k_) ∧ some k_ ≠ (v278 : Value).ownBlock ∧ some k_ ≠ (.slice Ao97 y280.length co97 : Value).ownBlock ∧ some k_ ≠ (.slice Ao99 y283.length co99 : Value).ownBlock ∧ some k_ ≠ (.slice Ao101 t286.length co101 : Value).ownBlock ∧ some k_ ≠ (.slice Ao102 t289.length co102 : Value).ownBlock)) (HO_1.out) (fun k_ hk => ⟨hk.1.1.1.1.1, ⟨hk.1.1.1.1.2, ⟨hk.1.1.1.2, ⟨hk.1.1.2, ⟨hk.1.2, hk.2⟩⟩⟩⟩⟩))))) (Reps.none _ _)) | exact (Reps.c4 (show Kd.FK k42 _ _ (⟨3, (⟨#[]⟩ : ByteArray), (⟨#[]⟩ : ByteArray), l1⟩ : S42) [.int .i64 3, .string (⟨#[]⟩ : ByteArray), .string (⟨#[]⟩ : ByteArray), .slice A1 l1.length c1] from (k42_mkF _ _ (⟨3, (⟨#[]⟩ : ByteArray), (⟨#[]⟩ : ByteArray), l1⟩ : S42) (Kd.V_reads' (Kd.V_mono (ok' := (fun k_ => (P1_ k_ ∨ w.heap.size ≤ k_) ∧ some k_ ≠ (v278 : Value).ownBlock ∧ some k_ ≠ (.slice Ao97 y280.length co97 : Value).ownBlock ∧ some k_ ≠ (.slice Ao99 y283.length co99 : Value).ownBlock ∧ some k_ ≠ (.slice Ao101 t286.length co101 : Value).ownBlock ∧ some k_ ≠ (.slice Ao102 t289.length co102 : Value).ownBlock)) (HO_1.out) (fun k_ hk => ⟨hk.1.1.1.1.1, ⟨hk.1.1.1.1.2, ⟨hk.1.1.1.2, ⟨hk.1.1.2, ⟨hk.1.2, hk.2⟩⟩⟩⟩⟩))).2.1 (Kd.V_F (Kd.V_mono (ok' := (fun k_ => (P1_ k_ ∨ w.heap.size ≤ k_) ∧ some k_ ≠ (v278 : Value).ownBlock ∧ some k_ ≠ (.slice Ao97 y280.length co97 : Value).ownBlock ∧ some k_ ≠ (.slice Ao99 y283.length co99 : Value).ownBlock ∧ some k_ ≠ (.slice Ao101 t286.length co101 : Value).ownBlock ∧ some k_ ≠ (.slice Ao102 t289.length co102 : Value).ownBlock)) (Kd.V_drewN HO_1.out _) (fun k_ hk => ⟨hk.1.1.1.1.1, ⟨hk.1.1.1.1.2, ⟨hk.1.1.1.2, ⟨hk.1.1.2, ⟨hk.1.2, hk.2⟩⟩⟩⟩⟩))))) (Reps.none _ _))); intro v294 w103 ho104 hb hg_ hnew_; clear hg_ hnew_; (first | rw [← Ny293.out] at ho104 | (simp only [Int.reduceToNat] at ho104; rw [← Ny293.out] at ho104)); have n0_ := Aside0.mk (Kd.V_elder' (by (with_reducible repeat (first | apply Kd.V_alloc | apply Kd.V_drewN | apply Kd.V_drew)); exact HO_1.out) (Kd.N_base ho104) hb); have n1_ := Aside0.mk (Kd.R_below (by (with_reducible repeat (first | apply Kd.R_alloc | apply Kd.R_drewN | apply Kd.R_drew)); exact HO279.out) hb); have n2_ := Aside0.mk (Kd.N_elder' (by (with_reducible repeat (first | apply Kd.N_alloc | apply Kd.N_drewN | apply Kd.N_drew)); exact HO282.out) (Kd.N_base ho104) hb); have n3_ := Aside0.mk (Kd.N_elder' (by (with_reducible repeat (first | apply Kd.N_alloc | apply Kd.N_drewN | apply Kd.N_drew)); exact HO285.out) (Kd.N_base ho104) hb); have n4_ := Aside0.mk (Kd.R_below (by (with_reducible repeat (first | apply Kd.R_alloc | apply Kd.R_drewN | apply Kd.R_drew)); exact HO288.out) hb); have n5_ := Aside0.mk (Kd.R_below (by (with_reducible repeat (first | apply Kd.R_alloc | apply Kd.R_drewN | apply Kd.R_drew)); exact HO291.out) hb); have n6_ := Aside0.mk (Kd.N_lower ho104 (below_size (by repeat (first | (with_reducible first | exact HB.out | apply below_alloc | apply pw_below_drewN | apply below_drew1) | exact HB.out)))); have n7_ := Aside0.mk (below_step (by repeat (first | (with_reducible first | exact HB.out | apply below_alloc | apply pw_below_drewN | apply below_drew1) | exact HB.out)) hb); clear HO_1; clear HO279; clear HO282; clear HO285; clear HO288; clear HO291; clear HB; have HO_1 := n0_; have HO279 := n1_; have HO282 := n2_; have HO285 := n3_; have HO288 := n4_; have HO291 := n5_; have HO295 := n6_; have HB := n7_; clear n0_ n1_ n2_ n3_ n4_ n5_ n6_ n7_; clear hb ho104) | ((with_reducible refine gate_dst (N := 75) rfl ?_); (try (refine gate_guard (by rfl) ?_; dsimp only)); refine Kd.N_lit k42 _ 42 ?hg (N' := 75) ?hd (xs := ([(⟨4, (⟨#[]⟩ : ByteArray), (⟨#[]⟩ : ByteArray), l1⟩ : S42)] : List (S42))) (inner := [.int .i64 4, .string (⟨#[]⟩ : ByteArray), .string (⟨#[]⟩ : ByteArray), .slice A1 l1.length c1]) (ok := (fun k_ => (P1_ k_ ∨ w.heap.size ≤ k_) ∧ some k_ ≠ (v278 : Value).ownBlock ∧ some k_ ≠ (.slice Ao97 y280.length co97 : Value).ownBlock ∧ some k_ ≠ (.slice Ao99 y283.length co99 : Value).ownBlock ∧ some k_ ≠ (.slice Ao101 t286.length co101 : Value).ownBlock ∧ some k_ ≠ (.slice Ao102 t289.length co102 : Value).ownBlock ∧ some k_ ≠ (v294 : Value).ownBlock)) (okp := (fun k_ => (P1_ k_ ∨ w.heap.size ≤ k_) ∧ some k_ ≠ (v278 : Value).ownBlock ∧ some k_ ≠ (.slice Ao97 y280.length co97 : Value).ownBlock ∧ some k_ ≠ (.slice Ao99 y283.length co99 : Value).ownBlock ∧ some k_ ≠ (.slice Ao101 t286.length co101 : Value).ownBlock ∧ some k_ ≠ (.slice Ao102 t289.length co102 : Value).ownBlock ∧ some k_ ≠ (v294 : Value).ownBlock)) ?hr ?hp (fun _ hk => hk) ((show ∀ k_, w103.heap.size ≤ k_ → (fun k_ => (P1_ k_ ∨ w.heap.size ≤ k_) ∧ some k_ ≠ (v278 : Value).ownBlock ∧ some k_ ≠ (.slice Ao97 y280.length co97 : Value).ownBlock ∧ some k_ ≠ (.slice Ao99 y283.length co99 : Value).ownBlock ∧ some k_ ≠ (.slice Ao101 t286.length co101 : Value).ownBlock ∧ some k_ ≠ (.slice Ao102 t289.length co102 : Value).ownBlock ∧ some k_ ≠ (v294 : Value).ownBlock) k_ from fun k_ hk => ⟨(.inr (Nat.le_trans (below_size (by repeat (first | (with_reducible first | exact HB.out | apply below_alloc | apply pw_below_drewN | apply below_drew1) | exact HB.out))) hk)), Kd.fresh' (Kd.R_lt (by (with_reducible repeat (first | apply Kd.R_alloc | apply Kd.R_drewN | apply Kd.R_drew)); exact HO279.out)) k_ hk, Kd.fresh' (Kd.N_lt (by (with_reducible repeat (first | apply Kd.N_alloc | apply Kd.N_drewN | apply Kd.N_drew)); exact HO282.out)) k_ hk, Kd.fresh' (Kd.N_lt (by (with_reducible repeat (first | apply Kd.N_alloc | apply Kd.N_drewN | apply Kd.N_drew)); exact HO285.out)) k_ hk, Kd.fresh' (Kd.R_lt (by (with_reducible repeat (first | apply Kd.R_alloc | apply Kd.R_drewN | apply Kd.R_drew)); exact HO288.out)) k_ hk, Kd.fresh' (Kd.R_lt (by (with_reducible repeat (first | apply Kd.R_alloc | apply Kd.R_drewN | apply Kd.R_drew)); exact HO291.out)) k_ hk, Kd.fresh' (Kd.N_lt (by (with_reducible repeat (first | apply Kd.N_alloc | apply Kd.N_drewN | apply Kd.N_drew)); exact HO295.out)) k_ hk⟩) _ (Nat.le_refl _)) (Below.refl _ _) (Nat.le_refl _) (by simp) ?_; (case hd => rfl); (case hg => rfl); (case hr => first | (go_simp; done) | (go_simp; rfl)); (case hp => first | exact (Reps.c4 (show Kd.FK k42 _ _ (⟨4, (⟨#[]⟩ : ByteArray), (⟨#[]⟩ : ByteArray), l1⟩ : S42) [.int .i64 4, .string (⟨#[]⟩ : ByteArray), .string (⟨#[]⟩ : ByteArray), .slice A1 l1.length c1] from (k42_mkF _ _ (⟨4, (⟨#[]⟩ : ByteArray), (⟨#[]⟩ : ByteArray), l1⟩ : S42) (Kd.V_reads' (Kd.V_mono (ok' := (fun k_ => (P1_ k_ ∨ w.heap.size ≤ k_) ∧ some k_ ≠ (v278 : Value).ownBlock ∧ some k_ ≠ (.slice Ao97 y280.length co97 : Value).ownBlock ∧ some k_ ≠ (.slice Ao99 y283.length co99 : Value).ownBlock ∧ some k_ ≠ (.slice Ao101 t286.length co101 : Value).ownBlock ∧ some k_ ≠ (.slice Ao102 t289.length co102 : Value).ownBlock ∧ some k_ ≠ (v294 : Value).ownBlock)) (HO_1.out) (fun k_ hk => ⟨hk.1.1.1.1.1.1, ⟨hk.1.1.1.1.1.2, ⟨hk.1.1.1.1.2, ⟨hk.1.1.1.2, ⟨hk.1.1.2, ⟨hk.1.2, hk.2⟩⟩⟩⟩⟩⟩))).2.1 (Kd.V_F (Kd.V_mono (ok' := (fun k_ => (P1_ k_ ∨ w.heap.size ≤ k_) ∧ some k_ ≠ (v278 : Value).ownBlock ∧ some k_ ≠ (.slice Ao97 y280.length co97 : Value).ownBlock ∧ some k_ ≠ (.slice Ao99 y283.length co99 : Value).ownBlock ∧ some k_ ≠ (.slice Ao101 t286.length co101 : Value).ownBlock ∧ some k_ ≠ (.slice Ao102 t289.length co102 : Value).ownBlock ∧ some k_ ≠ (v294 : Value).ownBlock)) (HO_1.out) (fun k_ hk => ⟨hk.1.1.1.1.1.1, ⟨hk.1.1.1.1.1.2, ⟨hk.1.1.1.1.2, ⟨hk.1.1.1.2, ⟨hk.1.1.2, ⟨hk.1.2, hk.2⟩⟩⟩⟩⟩⟩))))) (Reps.none _ _)) | exact (Reps.c4 (show Kd.FK k42 _ _ (⟨4, (⟨#[]⟩ : ByteArray), (⟨#[]⟩ : ByteArray), l1⟩ : S42) [.int .i64 4, .string (⟨#[]⟩ : ByteArray), .string (⟨#[]⟩ : ByteArray), .slice A1 l1.length c1] from (k42_mkF _ _ (⟨4, (⟨#[]⟩ : ByteArray), (⟨#[]⟩ : ByteArray), l1⟩ : S42) (Kd.V_reads' (Kd.V_mono (ok' := (fun k_ => (P1_ k_ ∨ w.heap.size ≤ k_) ∧ some k_ ≠ (v278 : Value).ownBlock ∧ some k_ ≠ (.slice Ao97 y280.length co97 : Value).ownBlock ∧ some k_ ≠ (.slice Ao99 y283.length co99 : Value).ownBlock ∧ some k_ ≠ (.slice Ao101 t286.length co101 : Value).ownBlock ∧ some k_ ≠ (.slice Ao102 t289.length co102 : Value).ownBlock ∧ some k_ ≠ (v294 : Value).ownBlock)) (HO_1.out) (fun k_ hk => ⟨hk.1.1.1.1.1.1, ⟨hk.1.1.1.1.1.2, ⟨hk.1.1.1.1.2, ⟨hk.1.1.1.2, ⟨hk.1.1.2, ⟨hk.1.2, hk.2⟩⟩⟩⟩⟩⟩))).2.1 (Kd.V_F (Kd.V_mono (ok' := (fun k_ => (P1_ k_ ∨ w.heap.size ≤ k_) ∧ some k_ ≠ (v278 : Value).ownBlock ∧ some k_ ≠ (.slice Ao97 y280.length co97 : Value).ownBlock ∧ some k_ ≠ (.slice Ao99 y283.length co99 : Value).ownBlock ∧ some k_ ≠ (.slice Ao101 t286.length co101 : Value).ownBlock ∧ some k_ ≠ (.slice Ao102 t289.length co102 : Value).ownBlock ∧ some k_ ≠ (v294 : Value).ownBlock)) (Kd.V_drewN HO_1.out _) (fun k_ hk => ⟨hk.1.1.1.1.1.1, ⟨hk.1.1.1.1.1.2, ⟨hk.1.1.1.1.2, ⟨hk.1.1.1.2, ⟨hk.1.1.2, ⟨hk.1.2, hk.2⟩⟩⟩⟩⟩⟩))))) (Reps.none _ _))); intro v297 w105 ho106 hb hg_ hnew_; clear hg_ hnew_; (first | rw [← Ny296.out] at ho106 | (simp only [Int.reduceToNat] at ho106; rw [← Ny296.out] at ho106)); have n0_ := Aside0.mk (Kd.V_elder' (by (with_reducible repeat (first | apply Kd.V_alloc | apply Kd.V_drewN | apply Kd.V_drew)); exact HO_1.out) (Kd.N_base ho106) hb); have n1_ := Aside0.mk (Kd.R_below (by (with_reducible repeat (first | apply Kd.R_alloc | apply Kd.R_drewN | apply Kd.R_drew)); exact HO279.out) hb); have n2_ := Aside0.mk (Kd.N_elder' (by (with_reducible repeat (first | apply Kd.N_alloc | apply Kd.N_drewN | apply Kd.N_drew)); exact HO282.out) (Kd.N_base ho106) hb); have n3_ := Aside0.mk (Kd.N_elder' (by (with_reducible repeat (first | apply Kd.N_alloc | apply Kd.N_drewN | apply Kd.N_drew)); exact HO285.out) (Kd.N_base ho106) hb); have n4_ := Aside0.mk (Kd.R_below (by (with_reducible repeat (first | apply Kd.R_alloc | apply Kd.R_drewN | apply Kd.R_drew)); exact HO288.out) hb); have n5_ := Aside0.mk (Kd.R_below (by (with_reducible repeat (first | apply Kd.R_alloc | apply Kd.R_drewN | apply Kd.R_drew)); exact HO291.out) hb); have n6_ := Aside0.mk (Kd.N_elder' (by (with_reducible repeat (first | apply Kd.N_alloc | apply Kd.N_drewN | apply Kd.N_drew)); exact HO295.out) (Kd.N_base ho106) hb); have n7_ := Aside0.mk (Kd.N_lower ho106 (below_size (by repeat (first | (with_reducible first | exact HB.out | apply below_alloc | apply pw_below_drewN | apply below_drew1) | exact HB.out)))); have n8_ := Aside0.mk (below_step (by repeat (first | (with_reducible first | exact HB.out | apply below_alloc | apply pw_below_drewN | apply below_drew1) | exact HB.out)) hb); clear HO_1; clear HO279; clear HO282; clear HO285; clear HO288; clear HO291; clear HO295; clear HB; have HO_1 := n0_; have HO279 := n1_; have HO282 := n2_; have HO285 := n3_; have HO288 := n4_; have HO291 := n5_; have HO295 := n6_; have HO298 := n7_; have HB := n8_; clear n0_ n1_ n2_ n3_ n4_ n5_ n6_ n7_ n8_; clear hb ho106; obtain ⟨Ao107, co107, eo107⟩ := Kd.N_slice HO295.out; subst eo107) | ((with_reducible refine gate_callee (f := 14) rfl ?_); refine goesL_ (some 77) rfl rfl Try.func14 (by kernel_rfl) rfl #[.slice Ao107 y293.length co107] rfl (by (try simp only [List.map_toArray, List.map_cons, List.map_nil]); first | done | rfl | (simp only [List.length_drop, List.length_take]; rfl)) ?_; (with_reducible refine (choose_Check.calls kj3 _ _ y293 t299 _ ?side1 ?side2 A27.out).mono ?_); (case side1 => repeat (first | exact (Kd.N_reads' HO295.out).2.2 | (with_reducible refine Kd.C_alloc ?_ _) | (with_reducible refine Kd.C_drewN ?_ _) | (with_reducible refine Kd.C_drew ?_))); (case side2 => exact (Kd.N_reads' HO295.out).2.1); rintro e w108 ⟨rfl, hb⟩; refine ⟨_, rfl, ?_⟩; have n0_ := Aside0.mk (Kd.V_below (by (with_reducible repeat (first | apply Kd.V_alloc | apply Kd.V_drewN | apply Kd.V_drew)); exact HO_1.out) hb); have n1_ := Aside0.mk (Kd.R_below (by (with_reducible repeat (first | apply Kd.R_alloc | apply Kd.R_drewN | apply Kd.R_drew)); exact HO279.out) hb); have n2_ := Aside0.mk (Kd.N_below (by (with_reducible repeat (first | apply Kd.N_alloc | apply Kd.N_drewN | apply Kd.N_drew)); exact HO282.out) hb); have n3_ := Aside0.mk (Kd.N_below (by (with_reducible repeat (first | apply Kd.N_alloc | apply Kd.N_drewN | apply Kd.N_drew)); exact HO285.out) hb); have n4_ := Aside0.mk (Kd.R_below (by (with_reducible repeat (first | apply Kd.R_alloc | apply Kd.R_drewN | apply Kd.R_drew)); exact HO288.out) hb); have n5_ := Aside0.mk (Kd.R_below (by (with_reducible repeat (first | apply Kd.R_alloc | apply Kd.R_drewN | apply Kd.R_drew)); exact HO291.out) hb); have n6_ := Aside0.mk (Kd.N_below (by (with_reducible repeat (first | apply Kd.N_alloc | apply Kd.N_drewN | apply Kd.N_drew)); exact HO295.out) hb); have n7_ := Aside0.mk (Kd.N_below (by (with_reducible repeat (first | apply Kd.N_alloc | apply Kd.N_drewN | apply Kd.N_drew)); exact HO298.out) hb); have n8_ := Aside0.mk (below_step (by repeat (first | (with_reducible first | exact HB.out | apply below_alloc | apply pw_below_drewN | apply below_drew1) | exact HB.out)) hb); clear HO_1; clear HO279; clear HO282; clear HO285; clear HO288; clear HO291; clear HO295; clear HO298; clear HB; have HO_1 := n0_; have HO279 := n1_; have HO282 := n2_; have HO285 := n3_; have HO288 := n4_; have HO291 := n5_; have HO295 := n6_; have HO298 := n7_; have HB := n8_; clear n0_ n1_ n2_ n3_ n4_ n5_ n6_ n7_ n8_; (try clear hb); (try clear hb2); (try clear hk); (try clear hi); obtain ⟨Ao109, co109, eo109⟩ := Kd.N_slice HO298.out; subst eo109) | ((with_reducible refine gate_callee (f := 14) rfl ?_); refine goesL_ (some 80) rfl rfl Try.func14 (by kernel_rfl) rfl #[.slice Ao109 y296.length co109] rfl (by (try simp only [List.map_toArray, List.map_cons, List.map_nil]); first | done | rfl | (simp only [List.length_drop, List.length_take]; rfl)) ?_; (with_reducible refine (choose_Check.calls kj3 _ _ y296 t300 _ ?side1 ?side2 A63.out).mono ?_); (case side1 => repeat (first | exact (Kd.N_reads' HO298.out).2.2 | (with_reducible refine Kd.C_alloc ?_ _) | (with_reducible refine Kd.C_drewN ?_ _) | (with_reducible refine Kd.C_drew ?_))); (case side2 => exact (Kd.N_reads' HO298.out).2.1); rintro e w110 ⟨rfl, hb⟩; refine ⟨_, rfl, ?_⟩; have n0_ := Aside0.mk (Kd.V_below (by (with_reducible repeat (first | apply Kd.V_alloc | apply Kd.V_drewN | apply Kd.V_drew)); exact HO_1.out) hb); have n1_ := Aside0.mk (Kd.R_below (by (with_reducible repeat (first | apply Kd.R_alloc | apply Kd.R_drewN | apply Kd.R_drew)); exact HO279.out) hb); have n2_ := Aside0.mk (Kd.N_below (by (with_reducible repeat (first | apply Kd.N_alloc | apply Kd.N_drewN | apply Kd.N_drew)); exact HO282.out) hb); have n3_ := Aside0.mk (Kd.N_below (by (with_reducible repeat (first | apply Kd.N_alloc | apply Kd.N_drewN | apply Kd.N_drew)); exact HO285.out) hb); have n4_ := Aside0.mk (Kd.R_below (by (with_reducible repeat (first | apply Kd.R_alloc | apply Kd.R_drewN | apply Kd.R_drew)); exact HO288.out) hb); have n5_ := Aside0.mk (Kd.R_below (by (with_reducible repeat (first | apply Kd.R_alloc | apply Kd.R_drewN | apply Kd.R_drew)); exact HO291.out) hb); have n6_ := Aside0.mk (Kd.N_below (by (with_reducible repeat (first | apply Kd.N_alloc | apply Kd.N_drewN | apply Kd.N_drew)); exact HO295.out) hb); have n7_ := Aside0.mk (Kd.N_below (by (with_reducible repeat (first | apply Kd.N_alloc | apply Kd.N_drewN | apply Kd.N_drew)); exact HO298.out) hb); have n8_ := Aside0.mk (below_step (by repeat (first | (with_reducible first | exact HB.out | apply below_alloc | apply pw_below_drewN | apply below_drew1) | exact HB.out)) hb); clear HO_1; clear HO279; clear HO282; clear HO285; clear HO288; clear HO291; clear HO295; clear HO298; clear HB; have HO_1 := n0_; have HO279 := n1_; have HO282 := n2_; have HO285 := n3_; have HO288 := n4_; have HO291 := n5_; have HO295 := n6_; have HO298 := n7_; have HB := n8_; clear n0_ n1_ n2_ n3_ n4_ n5_ n6_ n7_ n8_; (try clear hb); (try clear hb2); (try clear hk); (try clear hi)))
                      go_ret
                      exact ⟨by first | rfl | (simp [errW_none, errW_some] <;> rfl) | (simp only [← hji17]; first | rfl | (simp [errW_none, errW_some] <;> rfl)) | (simp [*, errW_none, errW_some] <;> rfl), by repeat (first | (with_reducible first | exact HB.out | apply below_alloc | apply pw_below_drewN | apply below_drew1) | exact HB.out)⟩
                · replace c26 := Bool.eq_false_iff.mpr c26
                  subst c26
                  have H1 : (some false) = some r := by rw [if_neg (show ¬ (false = true) by decide)] at H; exact H
                  clear H
                  have H := H1
                  clear H1
                  obtain rfl := Option.some.inj H
                  try go_wp2
                  have n0_ := Aside0.mk (Kd.V_drew HO_1.out)
                  have n1_ := Aside0.mk (below_drew1 HB.out)
                  clear HO_1
                  clear HB
                  have HO_1 := n0_
                  have HB := n1_
                  clear n0_ n1_
                  have p21 : 0 ≤ ((ji17) : Int) := of_decide_eq_true (by first | (with_reducible assumption) | assumption)
                  have q21 : (ji17) < (a0.size : Int) := of_decide_eq_true (by first | (with_reducible assumption) | assumption)
                  have hx21 := bt_at a0 (ji17)
                  replace p21 := eq_true p21
                  replace q21 := eq_true q21
                  refine start_ (n := 15) (S := fun w' => True) (ds := []) #[false, false, false, false, false, false, false, false, false, false, false, false, false, false, false] (by kernel_rfl) rfl rfl trivial (fun hHeld => ?_); refine with_tabW samphirelaw19_ChooseParts.tab3 samphirelaw19_ChooseParts.bits3 (fun HT_ HW_ => ?_)
                  generalize wc.drew = w111 at HO_1 HB hHeld ⊢
                  refine pure_ (i := 0) (N := some 41) (v := ?_) (a' := ?_) #[true, false, false, false, false, false, false, false, false, false, false, false, false, false, false] rfl rfl (any_of HT_.out (by kernel_rfl)) (fun _ _ _ h => h) (Or.inl ⟨by rfl, ?_⟩) ?_ ?_
                  rotate_left
                  · intro w'
                    go_simp
                    with_reducible rfl
                  rotate_left
                  · simp only [Act.put, List.setIfInBounds_toArray, List.set_cons_zero, List.set_cons_succ, i64_w, i32_w]
                    rfl
                  refine pure_ (i := 1) (N := some 42) (v := ?_) (a' := ?_) #[true, true, false, false, false, false, false, false, false, false, false, false, false, false, false] rfl rfl (any_of HT_.out (by kernel_rfl)) (fun _ _ _ h => h) (Or.inl ⟨by rfl, ?_⟩) ?_ ?_
                  rotate_left
                  · intro w'
                    go_simp
                    with_reducible rfl
                  rotate_left
                  · simp only [Act.put, List.setIfInBounds_toArray, List.set_cons_zero, List.set_cons_succ, i64_w, i32_w]
                    rfl
                  refine pure_ (i := 2) (N := some 43) (v := ?_) (a' := ?_) #[true, true, true, false, false, false, false, false, false, false, false, false, false, false, false] rfl rfl (any_of HT_.out (by kernel_rfl)) (fun _ _ _ h => h) (Or.inl ⟨by rfl, ?_⟩) ?_ ?_
                  rotate_left
                  · intro w'
                    go_simp
                    with_reducible rfl
                  rotate_left
                  · simp only [Act.put, List.setIfInBounds_toArray, List.set_cons_zero, List.set_cons_succ, i64_w, i32_w]
                    rfl
                  refine pure_ (i := 3) (N := some 44) (v := ?_) (a' := ?_) #[true, true, true, true, false, false, false, false, false, false, false, false, false, false, false] rfl rfl (any_of HT_.out (by kernel_rfl)) (fun _ _ _ h => h) (Or.inl ⟨by rfl, ?_⟩) ?_ ?_
                  rotate_left
                  · intro w'
                    go_simp
                    with_reducible rfl
                  rotate_left
                  · simp only [Act.put, List.setIfInBounds_toArray, List.set_cons_zero, List.set_cons_succ, i64_w, i32_w]
                    rfl
                  refine pure_ (i := 4) (N := some 45) (v := ?_) (a' := ?_) #[true, true, true, true, true, false, false, false, false, false, false, false, false, false, false] rfl rfl (any_of HT_.out (by kernel_rfl)) (fun _ _ _ h => h) (Or.inl ⟨by rfl, ?_⟩) ?_ ?_
                  rotate_left
                  · intro w'
                    go_simp
                    with_reducible rfl
                  rotate_left
                  · simp only [Act.put, List.setIfInBounds_toArray, List.set_cons_zero, List.set_cons_succ, i64_w, i32_w]
                    rfl
                  refine pure_ (i := 5) (N := some 46) (v := ?_) (a' := ?_) #[true, true, true, true, true, true, false, false, false, false, false, false, false, false, false] rfl rfl (any_of HT_.out (by kernel_rfl)) (fun _ _ _ h => h) (Or.inl ⟨by rfl, ?_⟩) ?_ ?_
                  rotate_left
                  · intro w'
                    go_simp
                    with_reducible rfl
                  rotate_left
                  · simp only [Act.put, List.setIfInBounds_toArray, List.set_cons_zero, List.set_cons_succ, i64_w, i32_w]
                    rfl
                  refine pure_ (i := 6) (N := some 47) (v := ?_) (a' := ?_) #[true, true, true, true, true, true, true, false, false, false, false, false, false, false, false] rfl rfl (any_of HT_.out (by kernel_rfl)) (fun _ _ _ h => h) (Or.inl ⟨by rfl, ?_⟩) ?_ ?_
                  rotate_left
                  · intro w'
                    go_simp
                    with_reducible rfl
                  rotate_left
                  · simp only [Act.put, List.setIfInBounds_toArray, List.set_cons_zero, List.set_cons_succ, i64_w, i32_w]
                    rfl
                  refine pure_ (i := 7) (N := some 48) (v := ?_) (a' := ?_) #[true, true, true, true, true, true, true, true, false, false, false, false, false, false, false] rfl rfl (any_of HT_.out (by kernel_rfl)) (fun _ _ _ h => h) (Or.inl ⟨by rfl, ?_⟩) ?_ ?_
                  rotate_left
                  · intro w'
                    go_simp
                    with_reducible rfl
                  rotate_left
                  · simp only [Act.put, List.setIfInBounds_toArray, List.set_cons_zero, List.set_cons_succ, i64_w, i32_w]
                    rfl
                  refine pure_ (i := 8) (N := some 49) (v := ?_) (a' := ?_) #[true, true, true, true, true, true, true, true, true, false, false, false, false, false, false] rfl rfl (any_of HT_.out (by kernel_rfl)) (fun _ _ _ h => h) (Or.inl ⟨by rfl, ?_⟩) ?_ ?_
                  rotate_left
                  · intro w'
                    go_simp
                    with_reducible rfl
                  rotate_left
                  · simp only [Act.put, List.setIfInBounds_toArray, List.set_cons_zero, List.set_cons_succ, i64_w, i32_w]
                    rfl
                  refine take_ (i := 9) (N := some 50) (v := ?_) (a' := ?_) #[true, true, true, true, true, true, true, true, true, true, false, false, false, false, false] rfl rfl (take_ofW HT_.out HW_.out (by kernel_rfl)) (fun _ _ _ h => h) (Or.inl ⟨by rfl, ?_⟩) hHeld ?_ ?_
                  rotate_left
                  · intro w' _
                    go_simp
                    with_reducible rfl
                  rotate_left
                  · simp only [Act.put, List.setIfInBounds_toArray, List.set_cons_zero, List.set_cons_succ, i64_w, i32_w]
                    rfl
                  refine pure_ (i := 10) (N := some 51) (v := ?_) (a' := ?_) #[true, true, true, true, true, true, true, true, true, true, true, false, false, false, false] rfl rfl (any_of HT_.out (by kernel_rfl)) (fun _ _ _ h => h) (Or.inl ⟨by rfl, ?_⟩) ?_ ?_
                  rotate_left
                  · intro w'
                    go_simp
                    with_reducible rfl
                  rotate_left
                  · simp only [Act.put, List.setIfInBounds_toArray, List.set_cons_zero, List.set_cons_succ, i64_w, i32_w]
                    rfl
                  refine one_ (i := 11) (N := some 52) #[true, true, true, true, true, true, true, true, true, true, true, true, false, false, false] rfl rfl (one_of HT_.out (by kernel_rfl)) (by decide) (fun K hK => ?_)
                  refine Kd.R_lit_step (Kd.int .u8) _ 5 ?hg (N := 52) ?hd (xs := ([((bt a0 (ji17)) + 1) % 256] : List Int)) (inner := [.int .u8 (((bt a0 (ji17)) + 1) % 256)]) (ok := fun _ => True) (okp := fun _ => True) ?hr ?hp (fun _ hk => hk) trivial (Below.refl _ _) (Nat.le_refl _) (by simp) ?_; (case hd => rfl); (case hg => rfl); (case hr => first | (go_simp; done) | (go_simp; rfl)); (case hp => exact (Reps.one (show Kd.M (Kd.int .u8) _ _ _ (((bt a0 (ji17)) + 1) % 256) [.int .u8 (((bt a0 (ji17)) + 1) % 256)] from rfl) (Reps.none _ _)))
                  intro v278 w112 ho113 hb hg_ hnew_
                  clear hg_ hnew_
                  (first | rw [← Ny277.out] at ho113 | (simp only [Int.reduceToNat] at ho113; rw [← Ny277.out] at ho113))
                  have n0_ := Aside0.mk (Kd.V_elder' (by (with_reducible repeat (first | apply Kd.V_alloc | apply Kd.V_drewN | apply Kd.V_drew)); exact HO_1.out) (Kd.R_base ho113) hb)
                  have n1_ := Aside0.mk (Kd.R_lower (Kd.R_newM (M := fun k_ => (w.heap.size ≤ k_)) ho113 (below_size (by repeat (first | (with_reducible first | exact HB.out | apply below_alloc | apply pw_below_drewN | apply below_drew1) | exact HB.out))) (fun k_ h_ => h_)) (below_size (by repeat (first | (with_reducible first | exact HB.out | apply below_alloc | apply pw_below_drewN | apply below_drew1) | exact HB.out))))
                  have n2_ := Aside0.mk (below_step (by repeat (first | (with_reducible first | exact HB.out | apply below_alloc | apply pw_below_drewN | apply below_drew1) | exact HB.out)) hb)
                  clear HO_1
                  clear HB
                  have HO_1 := n0_
                  have HO279 := n1_
                  have HB := n2_
                  clear n0_ n1_ n2_
                  clear hb ho113
                  refine hK.out _ _ trivial (fun hHeld => ?_)
                  clear hK K
                  refine norm_ (a' := ?_) ?_ ?_
                  rotate_left
                  · show Act.put _ (some 52) _ = _
                    simp only [Act.put, List.setIfInBounds_toArray, List.set_cons_zero, List.set_cons_succ, i64_w, i32_w]
                    rfl
                  refine one_ (i := 12) (N := some 53) #[true, true, true, true, true, true, true, true, true, true, true, true, true, false, false] rfl rfl (one_of HT_.out (by kernel_rfl)) (by decide) (fun K hK => ?_)
                  have hcv114 := own_string (P := Try.prog) Try.underlying40 Try.underlying5 Try.underlying9 (Kd.own_of_R HO279.out)
                  refine value_ (w1 := ?_) (v := ?_) (by rfl) rfl ?_ ?_
                  rotate_left 2
                  · go_simp
                    constructor
                    · rfl
                    · rfl
                  clear hcv114
                  refine hK.out _ _ trivial (fun hHeld => ?_)
                  clear hK K
                  refine norm_ (a' := ?_) ?_ ?_
                  rotate_left
                  · show Act.put _ (some 53) _ = _
                    simp only [Act.put, List.setIfInBounds_toArray, List.set_cons_zero, List.set_cons_succ, i64_w, i32_w]
                    rfl
                  refine pure_ (i := 13) (N := some 54) (v := ?_) (a' := ?_) #[true, true, true, true, true, true, true, true, true, true, true, true, true, true, false] rfl rfl (any_of HT_.out (by kernel_rfl)) (fun _ _ _ h => h) (Or.inl ⟨by rfl, ?_⟩) ?_ ?_
                  rotate_left
                  · intro w'
                    go_simp
                    with_reducible rfl
                  rotate_left
                  · simp only [Act.put, List.setIfInBounds_toArray, List.set_cons_zero, List.set_cons_succ, i64_w, i32_w]
                    rfl
                  refine pure_ (i := 14) (N := some 7) (v := ?_) (a' := ?_) #[true, true, true, true, true, true, true, true, true, true, true, true, true, true, true] rfl rfl (any_of HT_.out (by kernel_rfl)) (fun _ _ _ h => h) (Or.inl ⟨by rfl, ?_⟩) ?_ ?_
                  rotate_left
                  · intro w'
                    go_simp
                    with_reducible rfl
                  rotate_left
                  · simp only [Act.put, List.setIfInBounds_toArray, List.set_cons_zero, List.set_cons_succ, i64_w, i32_w]
                    rfl
                  refine done_ (done_of HT_.out (by kernel_rfl)) ?_
                  try go_wp2_with (first | ((with_reducible refine gate_dst (N := 57) rfl ?_); (try (refine gate_guard (by rfl) ?_; dsimp only)); refine Kd.N_lit k42 _ 42 ?hg (N' := 57) ?hd (xs := ([(⟨1, a0, (⟨#[]⟩ : ByteArray), ([] : List ByteArray)⟩ : S42)] : List (S42))) (inner := [.int .i64 1, .string a0, .string (⟨#[]⟩ : ByteArray), .slice none 0 0]) (ok := (fun k_ => (P1_ k_ ∨ w.heap.size ≤ k_) ∧ some k_ ≠ (v278 : Value).ownBlock)) (okp := (fun k_ => (P1_ k_ ∨ w.heap.size ≤ k_) ∧ some k_ ≠ (v278 : Value).ownBlock)) ?hr ?hp (fun _ hk => hk) ((show ∀ k_, w112.heap.size ≤ k_ → (fun k_ => (P1_ k_ ∨ w.heap.size ≤ k_) ∧ some k_ ≠ (v278 : Value).ownBlock) k_ from fun k_ hk => ⟨(.inr (Nat.le_trans (below_size (by repeat (first | (with_reducible first | exact HB.out | apply below_alloc | apply pw_below_drewN | apply below_drew1) | exact HB.out))) hk)), Kd.fresh' (Kd.R_lt (by (with_reducible repeat (first | apply Kd.R_alloc | apply Kd.R_drewN | apply Kd.R_drew)); exact HO279.out)) k_ hk⟩) _ (Nat.le_refl _)) (Below.refl _ _) (Nat.le_refl _) (by simp) ?_; (case hd => rfl); (case hg => rfl); (case hr => first | (go_simp; done) | (go_simp; rfl)); (case hp => exact (Reps.c4 (show Kd.FK k42 _ _ (⟨1, a0, (⟨#[]⟩ : ByteArray), ([] : List ByteArray)⟩ : S42) [.int .i64 1, .string a0, .string (⟨#[]⟩ : ByteArray), .slice none 0 0] from (k42_mkF _ _ (⟨1, a0, (⟨#[]⟩ : ByteArray), ([] : List ByteArray)⟩ : S42) (Nat.le_refl _) (Kd.F_nil _ _ _))) (Reps.none _ _))); intro v281 w115 ho116 hb hg_ hnew_; clear hg_ hnew_; (first | rw [← Ny280.out] at ho116 | (simp only [Int.reduceToNat] at ho116; rw [← Ny280.out] at ho116)); have n0_ := Aside0.mk (Kd.V_elder' (by (with_reducible repeat (first | apply Kd.V_alloc | apply Kd.V_drewN | apply Kd.V_drew)); exact HO_1.out) (Kd.N_base ho116) hb); have n1_ := Aside0.mk (Kd.R_below (by (with_reducible repeat (first | apply Kd.R_alloc | apply Kd.R_drewN | apply Kd.R_drew)); exact HO279.out) hb); have n2_ := Aside0.mk (Kd.N_lower ho116 (below_size (by repeat (first | (with_reducible first | exact HB.out | apply below_alloc | apply pw_below_drewN | apply below_drew1) | exact HB.out)))); have n3_ := Aside0.mk (below_step (by repeat (first | (with_reducible first | exact HB.out | apply below_alloc | apply pw_below_drewN | apply below_drew1) | exact HB.out)) hb); clear HO_1; clear HO279; clear HB; have HO_1 := n0_; have HO279 := n1_; have HO282 := n2_; have HB := n3_; clear n0_ n1_ n2_ n3_; clear hb ho116) | ((with_reducible refine gate_dst (N := 61) rfl ?_); (try (refine gate_guard (by rfl) ?_; dsimp only)); refine Kd.N_lit k42 _ 42 ?hg (N' := 61) ?hd (xs := ([(⟨2, a0, (a0.extract 0 ((ji17) : Int).toNat) ++ (strOfNums y277), ([] : List ByteArray)⟩ : S42)] : List (S42))) (inner := [.int .i64 2, .string a0, .string ((a0.extract 0 ((ji17) : Int).toNat) ++ (strOfNums y277)), .slice none 0 0]) (ok := (fun k_ => (P1_ k_ ∨ w.heap.size ≤ k_) ∧ some k_ ≠ (v278 : Value).ownBlock ∧ some k_ ≠ (v281 : Value).ownBlock)) (okp := (fun k_ => (P1_ k_ ∨ w.heap.size ≤ k_) ∧ some k_ ≠ (v278 : Value).ownBlock ∧ some k_ ≠ (v281 : Value).ownBlock)) ?hr ?hp (fun _ hk => hk) ((show ∀ k_, w115.heap.size ≤ k_ → (fun k_ => (P1_ k_ ∨ w.heap.size ≤ k_) ∧ some k_ ≠ (v278 : Value).ownBlock ∧ some k_ ≠ (v281 : Value).ownBlock) k_ from fun k_ hk => ⟨(.inr (Nat.le_trans (below_size (by repeat (first | (with_reducible first | exact HB.out | apply below_alloc | apply pw_below_drewN | apply below_drew1) | exact HB.out))) hk)), Kd.fresh' (Kd.R_lt (by (with_reducible repeat (first | apply Kd.R_alloc | apply Kd.R_drewN | apply Kd.R_drew)); exact HO279.out)) k_ hk, Kd.fresh' (Kd.N_lt (by (with_reducible repeat (first | apply Kd.N_alloc | apply Kd.N_drewN | apply Kd.N_drew)); exact HO282.out)) k_ hk⟩) _ (Nat.le_refl _)) (Below.refl _ _) (Nat.le_refl _) (by simp) ?_; (case hd => rfl); (case hg => rfl); (case hr => first | (go_simp; done) | (go_simp; rfl)); (case hp => exact (Reps.c4 (show Kd.FK k42 _ _ (⟨2, a0, (a0.extract 0 ((ji17) : Int).toNat) ++ (strOfNums y277), ([] : List ByteArray)⟩ : S42) [.int .i64 2, .string a0, .string ((a0.extract 0 ((ji17) : Int).toNat) ++ (strOfNums y277)), .slice none 0 0] from (k42_mkF _ _ (⟨2, a0, (a0.extract 0 ((ji17) : Int).toNat) ++ (strOfNums y277), ([] : List ByteArray)⟩ : S42) (Nat.le_refl _) (Kd.F_nil _ _ _))) (Reps.none _ _))); intro v284 w117 ho118 hb hg_ hnew_; clear hg_ hnew_; (first | rw [← Ny283.out] at ho118 | (simp only [Int.reduceToNat] at ho118; rw [← Ny283.out] at ho118)); have n0_ := Aside0.mk (Kd.V_elder' (by (with_reducible repeat (first | apply Kd.V_alloc | apply Kd.V_drewN | apply Kd.V_drew)); exact HO_1.out) (Kd.N_base ho118) hb); have n1_ := Aside0.mk (Kd.R_below (by (with_reducible repeat (first | apply Kd.R_alloc | apply Kd.R_drewN | apply Kd.R_drew)); exact HO279.out) hb); have n2_ := Aside0.mk (Kd.N_elder' (by (with_reducible repeat (first | apply Kd.N_alloc | apply Kd.N_drewN | apply Kd.N_drew)); exact HO282.out) (Kd.N_base ho118) hb); have n3_ := Aside0.mk (Kd.N_lower ho118 (below_size (by repeat (first | (with_reducible first | exact HB.out | apply below_alloc | apply pw_below_drewN | apply below_drew1) | exact HB.out)))); have n4_ := Aside0.mk (below_step (by repeat (first | (with_reducible first | exact HB.out | apply below_alloc | apply pw_below_drewN | apply below_drew1) | exact HB.out)) hb); clear HO_1; clear HO279; clear HO282; clear HB; have HO_1 := n0_; have HO279 := n1_; have HO282 := n2_; have HO285 := n3_; have HB := n4_; clear n0_ n1_ n2_ n3_ n4_; clear hb ho118; obtain ⟨Ao119, co119, eo119⟩ := Kd.N_slice HO282.out; subst eo119) | ((with_reducible refine gate_callee (f := 17) rfl ?_); refine goesL_ (some 64) rfl rfl Try.func17 (by kernel_rfl) rfl #[.slice Ao119 y280.length co119, .slice A2 l2.length c2] rfl (by (try simp only [List.map_toArray, List.map_cons, List.map_nil]); first | done | rfl | (simp only [List.length_drop, List.length_take]; rfl)) ?_; (with_reducible refine (choose_Keys.calls kj3 _ _ y280 _ _ l2 t286 _ ?side1 ?side2 ?side3 ?side4 A23.out).mono ?_); (case side1 => repeat (first | exact (Kd.N_reads' HO282.out).2.2 | (with_reducible refine Kd.C_alloc ?_ _) | (with_reducible refine Kd.C_drewN ?_ _) | (with_reducible refine Kd.C_drew ?_))); (case side2 => exact (Kd.N_reads' HO282.out).2.1); (case side3 => repeat (first | exact (Kd.C_below HR2.out HB.out) | (with_reducible refine Kd.C_alloc ?_ _) | (with_reducible refine Kd.C_drewN ?_ _) | (with_reducible refine Kd.C_drew ?_))); (case side4 => exact HC2.out); rintro e w120 ⟨v287, rfl, ho0, hb⟩; refine ⟨_, rfl, ?_⟩; have n0_ := Aside0.mk (Kd.V_elder' (by (with_reducible repeat (first | apply Kd.V_alloc | apply Kd.V_drewN | apply Kd.V_drew)); exact HO_1.out) (Kd.R_base ho0) hb); have n1_ := Aside0.mk (Kd.R_below (by (with_reducible repeat (first | apply Kd.R_alloc | apply Kd.R_drewN | apply Kd.R_drew)); exact HO279.out) hb); have n2_ := Aside0.mk (Kd.N_elder' (by (with_reducible repeat (first | apply Kd.N_alloc | apply Kd.N_drewN | apply Kd.N_drew)); exact HO282.out) (Kd.R_base ho0) hb); have n3_ := Aside0.mk (Kd.N_elder' (by (with_reducible repeat (first | apply Kd.N_alloc | apply Kd.N_drewN | apply Kd.N_drew)); exact HO285.out) (Kd.R_base ho0) hb); have n4_ := Aside0.mk (Kd.R_lower (Kd.R_newM (M := fun k_ => (w.heap.size ≤ k_)) ho0 (below_size (by repeat (first | (with_reducible first | exact HB.out | apply below_alloc | apply pw_below_drewN | apply below_drew1) | exact HB.out))) (fun k_ h_ => h_)) (below_size (by repeat (first | (with_reducible first | exact HB.out | apply below_alloc | apply pw_below_drewN | apply below_drew1) | exact HB.out)))); have n5_ := Aside0.mk (below_step (by repeat (first | (with_reducible first | exact HB.out | apply below_alloc | apply pw_below_drewN | apply below_drew1) | exact HB.out)) hb); clear HO_1; clear HO279; clear HO282; clear HO285; clear HB; have HO_1 := n0_; have HO279 := n1_; have HO282 := n2_; have HO285 := n3_; have HO288 := n4_; have HB := n5_; clear n0_ n1_ n2_ n3_ n4_ n5_; (try clear hb); (try clear hb2); (try clear hk); (try clear hi); (try clear ho0); obtain ⟨Ao121, co121, eo121⟩ := Kd.N_slice HO285.out; subst eo121) | ((with_reducible refine gate_callee (f := 17) rfl ?_); refine goesL_ (some 67) rfl rfl Try.func17 (by kernel_rfl) rfl #[.slice Ao121 y283.length co121, .slice A2 l2.length c2] rfl (by (try simp only [List.map_toArray, List.map_cons, List.map_nil]); first | done | rfl | (simp only [List.length_drop, List.length_take]; rfl)) ?_; (with_reducible refine (choose_Keys.calls kj3 _ _ y283 _ _ l2 t289 _ ?side1 ?side2 ?side3 ?side4 A24.out).mono ?_); (case side1 => repeat (first | exact (Kd.N_reads' HO285.out).2.2 | (with_reducible refine Kd.C_alloc ?_ _) | (with_reducible refine Kd.C_drewN ?_ _) | (with_reducible refine Kd.C_drew ?_))); (case side2 => exact (Kd.N_reads' HO285.out).2.1); (case side3 => repeat (first | exact (Kd.C_below HR2.out HB.out) | (with_reducible refine Kd.C_alloc ?_ _) | (with_reducible refine Kd.C_drewN ?_ _) | (with_reducible refine Kd.C_drew ?_))); (case side4 => exact HC2.out); rintro e w122 ⟨v290, rfl, ho0, hb⟩; refine ⟨_, rfl, ?_⟩; have n0_ := Aside0.mk (Kd.V_elder' (by (with_reducible repeat (first | apply Kd.V_alloc | apply Kd.V_drewN | apply Kd.V_drew)); exact HO_1.out) (Kd.R_base ho0) hb); have n1_ := Aside0.mk (Kd.R_below (by (with_reducible repeat (first | apply Kd.R_alloc | apply Kd.R_drewN | apply Kd.R_drew)); exact HO279.out) hb); have n2_ := Aside0.mk (Kd.N_elder' (by (with_reducible repeat (first | apply Kd.N_alloc | apply Kd.N_drewN | apply Kd.N_drew)); exact HO282.out) (Kd.R_base ho0) hb); have n3_ := Aside0.mk (Kd.N_elder' (by (with_reducible repeat (first | apply Kd.N_alloc | apply Kd.N_drewN | apply Kd.N_drew)); exact HO285.out) (Kd.R_base ho0) hb); have n4_ := Aside0.mk (Kd.R_elder' (by (with_reducible repeat (first | apply Kd.R_alloc | apply Kd.R_drewN | apply Kd.R_drew)); exact HO288.out) (Kd.R_base ho0) hb); have n5_ := Aside0.mk (Kd.R_lower (Kd.R_new' (Kd.R_newM (M := fun k_ => (w.heap.size ≤ k_)) ho0 (below_size (by repeat (first | (with_reducible first | exact HB.out | apply below_alloc | apply pw_below_drewN | apply below_drew1) | exact HB.out))) (fun k_ h_ => h_)) (Kd.R_lt (by (with_reducible repeat (first | apply Kd.R_alloc | apply Kd.R_drewN | apply Kd.R_drew)); exact HO288.out))) (below_size (by repeat (first | (with_reducible first | exact HB.out | apply below_alloc | apply pw_below_drewN | apply below_drew1) | exact HB.out)))); have n6_ := Aside0.mk (below_step (by repeat (first | (with_reducible first | exact HB.out | apply below_alloc | apply pw_below_drewN | apply below_drew1) | exact HB.out)) hb); clear HO_1; clear HO279; clear HO282; clear HO285; clear HO288; clear HB; have HO_1 := n0_; have HO279 := n1_; have HO282 := n2_; have HO285 := n3_; have HO288 := n4_; have HO291 := n5_; have HB := n6_; clear n0_ n1_ n2_ n3_ n4_ n5_ n6_; (try clear hb); (try clear hb2); (try clear hk); (try clear hi); (try clear ho0); obtain ⟨Ao123, co123, eo123⟩ := Kd.R_slice HO288.out; subst eo123; obtain ⟨Ao124, co124, eo124⟩ := Kd.R_slice HO291.out; subst eo124) | ((with_reducible refine gate_callee (f := 16) rfl ?_); refine goesL_ (some 68) rfl rfl Try.func16 (by kernel_rfl) rfl #[.slice Ao123 t286.length co123, .slice Ao124 t289.length co124] rfl (by (try simp only [List.map_toArray, List.map_cons, List.map_nil]); first | done | rfl | (simp only [List.length_drop, List.length_take]; rfl)) ?_; (with_reducible refine (samphireref16_Strings.calls kj3 _ _ t286 _ _ t289 false _ ?side1 ?side2 ?side3 ?side4 A25.out).mono ?_); (case side1 => repeat (first | exact (Kd.R_reads' HO288.out).2.2 | (with_reducible refine Kd.C_alloc ?_ _) | (with_reducible refine Kd.C_drewN ?_ _) | (with_reducible refine Kd.C_drew ?_))); (case side2 => exact (Kd.R_reads' HO288.out).2.1); (case side3 => repeat (first | exact (Kd.R_reads' HO291.out).2.2 | (with_reducible refine Kd.C_alloc ?_ _) | (with_reducible refine Kd.C_drewN ?_ _) | (with_reducible refine Kd.C_drew ?_))); (case side4 => exact (Kd.R_reads' HO291.out).2.1); rintro e w' ⟨rfl, ⟨nd, rfl⟩⟩; refine ⟨_, rfl, ?_⟩))
                  go_ret
                  exact ⟨by first | rfl | (simp [errW_none, errW_some] <;> rfl) | (simp only [← hji17]; first | rfl | (simp [errW_none, errW_some] <;> rfl)) | (simp [*, errW_none, errW_some] <;> rfl), by repeat (first | (with_reducible first | exact HB.out | apply below_alloc | apply pw_below_drewN | apply below_drew1) | exact HB.out)⟩
              · rw [if_neg c22] at H
                exact absurd H (by simp)
            · rw [if_neg c20] at H
              exact absurd H (by simp)
          · rw [if_neg c19] at H
            exact absurd H (by simp)
        · rw [if_neg c18] at H
          exact absurd H (by simp)

end Go.Proofs.Ytnpipaehcklnbaa.H
