import Derived.Test.YtojpmjkphgjmgaaHx0
namespace Go.Proofs.Ytojpmjkphgjmgaa.H
open Go.RowKit Go.Proofs.YtojpmjkphgjmgaaW.PrintWords Go.Proofs.YtojpmjkphgjmgaaW.PrintLast Go.Proofs.YtojpmjkphgjmgaaW.PrintMore Go.Proofs.YtojpmjkphgjmgaaW.Sq
attribute [local go_sem] max2_int min2_int max_two min_two max_three min_three max_four min_four
set_option linter.unusedVariables false
set_option linter.unusedSimpArgs false

def r12_Many.l0 : Nat → Int → Int → Int → Int → List (S46) → Option (Int)
 | 0, _, _, _, _, _ => none
 | k + 1, x3, x4, x286000, x286001, x286002 => if x4 < (x286002.length : Int) then (if 0 ≤ x4 then (if (rd_T46 x286002 x4).f0 = true then (r12_Many.l0 k (wrap64 (x3 + 1)) (wrap64 (x4 + 1)) x286000 x286001 x286002) else (r12_Many.l0 k x3 (wrap64 (x4 + 1)) x286000 x286001 x286002)) else (none)) else (some x3)
def r12_Many.f (k : Nat) (a0_0 : Int) (a0_1 : Int) (l0_2 : List (S46)) : Option (Int) := r12_Many.l0 k 0 0 a0_0 a0_1 l0_2
theorem r12_Many.mono_l : ∀ k, (∀ y0 y1 y2 y3 y4, LeO (r12_Many.l0 k y0 y1 y2 y3 y4) (r12_Many.l0 (k + 1) y0 y1 y2 y3 y4))
 | 0 => fun _ _ _ _ _ r h => by simp [r12_Many.l0] at h
 | k + 1 => by
  have ih0 := r12_Many.mono_l k
  ·intro y0 y1 y2 y3 y4
   unfold r12_Many.l0
   repeat' first
   | (with_reducible exact ih0 _ _ _ _ _)
   | (with_reducible exact LeO.refl _)
   | (with_reducible exact LeO.none _)
   | (with_reducible refine LeO.ite ?_ ?_)
   | (with_reducible refine LeO.bind ?_ (fun _ => ?_))
theorem r12_Many.mono : ∀ a0 a1 a2 k, LeO (r12_Many.f k a0 a1 a2) (r12_Many.f (k + 1) a0 a1 a2) := by
 intro a0 a1 a2 k
 have ih0 := r12_Many.mono_l k
 unfold r12_Many.f
 repeat' first
   | (with_reducible exact ih0 _ _ _ _ _)
   | (with_reducible exact LeO.refl _)
   | (with_reducible exact LeO.none _)
   | (with_reducible refine LeO.ite ?_ ?_)
   | (with_reducible refine LeO.bind ?_ (fun _ => ?_))
set_option maxHeartbeats 8000000 in
set_option maxRecDepth 100000 in
theorem r12_Many.calls (k : Nat) (a0_0 : Int) (a0_1 : Int) (A0_2 : Option Addr) (c0_2 : Nat) (l0_2 : List (S46)) (r : Int) (w : World) (hr0_2 : Kd.C k46 w A0_2 l0_2.length l0_2) (hc0_2 : l0_2.length ≤ c0_2) (h : r12_Many.f k a0_0 a0_1 l0_2 = some r) :
  Calls Try.prog 19 #[.agg #[.int .u64 a0_0, .int .u64 a0_1, .slice A0_2 l0_2.length c0_2]] w fun e w' => e = .returned (.int .i64 r) ∧ Below w.heap.size w w' := by
 have hu30 := Try.underlying30
 have HR0_2 := am hr0_2
 have HC0_2 := am hc0_2
 clear hr0_2 hc0_2
 have HB := am (Below.refl w.heap.size w)
 have H : (r12_Many.l0 k 0 0 a0_0 a0_1 l0_2) = some r := h
 clear h
 have H' := am H
 clear H
 go_enter Try.func19, Try.ntmps19
 go_wp2_with (first | ((with_reducible refine gate_dst (N := 1) rfl ?_); refine be 1 #[.int .u64 a0_0, .int .u64 a0_1, .slice A0_2 l0_2.length c0_2] 30 ?_; intro gb285 hg w2 hbox hb; have n0_ := am (below_step (pb HB) hb); have n1_ := am (hbox); have n2_ := am ((pg hg HB : w.heap.size ≤ gb285)); have n3_ := am ((pg hg HB : w.heap.size ≤ gb285)); clear HB; have HB := n0_; have BK285 := n1_; have GW285 := n2_; have GE285 := n3_; clear n0_ n1_ n2_ n3_; clear hb hbox hg))
 go_loopg [3, 4] k (fun kq v3 v4 w' => ∃ (x3_1 : Int) (x4_1 : Int), v3 = .int .i64 x3_1 ∧ v4 = .int .i64 x4_1 ∧ Aside0 (r12_Many.l0 kq x3_1 x4_1 a0_0 a0_1 l0_2 = some r) ∧ Aside0 (kq ≤ k) ∧ Aside0 (w'.heap[gb285]? = some (.cells #[.int .u64 a0_0, .int .u64 a0_1, (.slice A0_2 l0_2.length c0_2)] 30 (0, 0))) ∧ Aside0 (Below w.heap.size w w'))
 case atStart => exact ⟨(0), (0), (by first | rfl | (simp; done) | (simp [*]; done)), (by first | rfl | (simp; done) | (simp [*]; done)), H', ⟨Nat.le_refl _⟩, ⟨pk BK285.out⟩, ⟨pb HB⟩⟩
 case round =>
  clear H'
  try clear c1
  try clear p2
  obtain ⟨x3_1, x4_1, rfl, rfl, HA, HK1, BK285, HB⟩ := hrel
  cases gk with
  | zero => exact absurd HA.out (by simp [r12_Many.l0])
  | succ k1 =>
   have H := HA.out
   clear HA
   simp only [r12_Many.l0] at H
   by_cases c3 : x4_1 < (l0_2.length : Int)
   ·rw [if_pos c3] at H
    have c3b0 : decide (x4_1 < (l0_2.length : Int)) = true := decide_eq_true c3
    clear c3
    by_cases c4 : 0 ≤ x4_1
    ·rw [if_pos c4] at H
     have c4b0 : decide (0 ≤ x4_1) = true := decide_eq_true c4
     clear c4
     obtain ⟨bq5, hbq5⟩ : ∃ b_ : Bool, b_ = ((rd_T46 l0_2 x4_1).f0) := ⟨_, rfl⟩
     replace H : (if bq5 = true then (r12_Many.l0 k1 (wrap64 (x3_1 + 1)) (wrap64 (x4_1 + 1)) a0_0 a0_1 l0_2) else (r12_Many.l0 k1 x3_1 (wrap64 (x4_1 + 1)) a0_0 a0_1 l0_2)) = some r := by rw [← hbq5] at H; exact H
     have Nbq5 := am hbq5
     clear hbq5
     by_cases c6 : bq5 = true
     ·subst c6
      have H1 : (r12_Many.l0 k1 (wrap64 (x3_1 + 1)) (wrap64 (x4_1 + 1)) a0_0 a0_1 l0_2) = some r := by rw [if_pos rfl] at H; exact H
      clear H
      have H := H1
      clear H1
      have H' := am H
      clear H
      have hcz7_0 := ce BK285 0
      have hcz7_1 := ce BK285 1
      have hcz7_2 := ce BK285 2
      have hfz7_0 := fz BK285 0
      have hfz7_1 := fz BK285 1
      have hfz7_2 := fz BK285 2
      have p286 : 0 ≤ (x4_1 : Int) := of_decide_eq_true (by first | (with_reducible assumption) | assumption)
      have q286 : x4_1 < (l0_2.length : Int) := of_decide_eq_true (by first | (with_reducible assumption) | assumption)
      obtain ⟨ad286, e286, hx286_0, hx286_1, hx286_2⟩ := at_T46 HR0_2.out x4_1 p286 q286
      (try rw [← Nbq5.out] at hx286_0)
      cases e286
      replace hx286_0 := (HB.out.cell (World.block_lt_of_cell? w _ hx286_0)).trans hx286_0
      replace hx286_1 := (HB.out.cell (World.block_lt_of_cell? w _ hx286_1)).trans hx286_1
      replace hx286_2 := (HB.out.cell (World.block_lt_of_cell? w _ hx286_2)).trans hx286_2
      replace p286 := eq_true p286
      replace q286 := eq_true q286
      go_wp2
      go_roundg k1
      case measure => have := HK1.out; omega
      case rel => exact ⟨(wrap64 (x3_1 + 1)), (wrap64 (x4_1 + 1)), (by first | rfl | (simp; done) | (simp [*]; done)), (by first | rfl | (simp; done) | (simp [*]; done)), H', ⟨by have := HK1.out; omega⟩, ⟨pk BK285.out⟩, ⟨pb HB⟩⟩
     ·replace c6 := Bool.eq_false_iff.mpr c6
      subst c6
      have H1 : (r12_Many.l0 k1 x3_1 (wrap64 (x4_1 + 1)) a0_0 a0_1 l0_2) = some r := by rw [if_neg (show ¬ (false = true) by decide)] at H; exact H
      clear H
      have H := H1
      clear H1
      have H' := am H
      clear H
      have hcz8_0 := ce BK285 0
      have hcz8_1 := ce BK285 1
      have hcz8_2 := ce BK285 2
      have hfz8_0 := fz BK285 0
      have hfz8_1 := fz BK285 1
      have hfz8_2 := fz BK285 2
      have p286 : 0 ≤ (x4_1 : Int) := of_decide_eq_true (by first | (with_reducible assumption) | assumption)
      have q286 : x4_1 < (l0_2.length : Int) := of_decide_eq_true (by first | (with_reducible assumption) | assumption)
      obtain ⟨ad286, e286, hx286_0, hx286_1, hx286_2⟩ := at_T46 HR0_2.out x4_1 p286 q286
      (try rw [← Nbq5.out] at hx286_0)
      cases e286
      replace hx286_0 := (HB.out.cell (World.block_lt_of_cell? w _ hx286_0)).trans hx286_0
      replace hx286_1 := (HB.out.cell (World.block_lt_of_cell? w _ hx286_1)).trans hx286_1
      replace hx286_2 := (HB.out.cell (World.block_lt_of_cell? w _ hx286_2)).trans hx286_2
      replace p286 := eq_true p286
      replace q286 := eq_true q286
      go_wp2
      go_roundg k1
      case measure => have := HK1.out; omega
      case rel => exact ⟨(x3_1), (wrap64 (x4_1 + 1)), (by first | rfl | (simp; done) | (simp [*]; done)), (by first | rfl | (simp; done) | (simp [*]; done)), H', ⟨by have := HK1.out; omega⟩, ⟨pk BK285.out⟩, ⟨pb HB⟩⟩
    ·rw [if_neg c4] at H
     exact absurd H (by simp)
   ·rw [if_neg c3] at H
    have c3b0 : decide (x4_1 < (l0_2.length : Int)) = false := decide_eq_false c3
    clear c3
    obtain rfl := Option.some.inj H
    have hcz9_0 := ce BK285 0
    have hcz9_1 := ce BK285 1
    have hcz9_2 := ce BK285 2
    have hfz9_0 := fz BK285 0
    have hfz9_1 := fz BK285 1
    have hfz9_2 := fz BK285 2
    go_wp2
    go_ret
    exact ⟨by first | rfl | (simp [errW_none, errW_some] <;> rfl) | (simp [*, errW_none, errW_some] <;> rfl), pb HB⟩
def r12_power.l0 : Nat → Int → Int → Option (Bool)
 | 0, _, _ => none
 | k + 1, x0, x3 => if x3 ≤ 4096 then (if x0 = x3 then (some true) else (r12_power.l0 k x0 (wrap64 (2 * x3)))) else (some false)
def r12_power.f (k : Nat) (a0 : Int) : Option (Bool) := r12_power.l0 k a0 8
theorem r12_power.mono_l : ∀ k, (∀ y0 y1, LeO (r12_power.l0 k y0 y1) (r12_power.l0 (k + 1) y0 y1))
 | 0 => fun _ _ r h => by simp [r12_power.l0] at h
 | k + 1 => by
  have ih0 := r12_power.mono_l k
  ·intro y0 y1
   unfold r12_power.l0
   repeat' first
   | (with_reducible exact ih0 _ _)
   | (with_reducible exact LeO.refl _)
   | (with_reducible exact LeO.none _)
   | (with_reducible refine LeO.ite ?_ ?_)
   | (with_reducible refine LeO.bind ?_ (fun _ => ?_))
theorem r12_power.mono : ∀ a0 k, LeO (r12_power.f k a0) (r12_power.f (k + 1) a0) := by
 intro a0 k
 have ih0 := r12_power.mono_l k
 unfold r12_power.f
 repeat' first
   | (with_reducible exact ih0 _ _)
   | (with_reducible exact LeO.refl _)
   | (with_reducible exact LeO.none _)
   | (with_reducible refine LeO.ite ?_ ?_)
   | (with_reducible refine LeO.bind ?_ (fun _ => ?_))
set_option maxHeartbeats 8000000 in
set_option maxRecDepth 100000 in
theorem r12_power.calls (k : Nat) (a0 : Int) (r : Bool) (w : World) (h : r12_power.f k a0 = some r) :
  Calls Try.prog 23 #[.int .i64 a0] w fun e w' => e = .returned (.bool r) ∧ Drawn0 w w' := by
 have H : (r12_power.l0 k a0 8) = some r := h
 clear h
 have H' := am H
 clear H
 go_enter Try.func23, Try.ntmps23
 go_wp2
 go_loopg [3] k (fun kq v3 w' => ∃ (x3_1 : Int), v3 = .int .i64 x3_1 ∧ Aside0 (r12_power.l0 kq a0 x3_1 = some r) ∧ Aside0 (kq ≤ k) ∧ Drawn0 w w')
 case atStart => exact ⟨(8), (by first | rfl | (simp; done) | (simp [*]; done)), H', ⟨Nat.le_refl _⟩, by repeat (first | exact Drawn0.refl _ | apply Drawn0.step)⟩
 case round =>
  clear H'
  obtain ⟨x3_1, rfl, HA, HK1, ⟨m1, rfl⟩⟩ := hrel
  cases gk with
  | zero => exact absurd HA.out (by simp [r12_power.l0])
  | succ k1 =>
   have H := HA.out
   clear HA
   simp only [r12_power.l0] at H
   by_cases c2 : x3_1 ≤ 4096
   ·rw [if_pos c2] at H
    have c2b0 : decide (x3_1 ≤ 4096) = true := decide_eq_true c2
    clear c2
    by_cases c3 : a0 = x3_1
    ·rw [if_pos c3] at H
     have c3b0 : (a0 == x3_1) = true := beq_iff_eq.mpr c3
     have c3b1 : (a0 != x3_1) = false := bne_eq_false_iff_eq.mpr c3
     clear c3
     obtain rfl := Option.some.inj H
     go_wp2
     go_ret
     exact ⟨by first | rfl | (simp; done) | (simp [*]; done), by repeat (first | exact Drawn0.refl _ | apply Drawn0.step)⟩
    ·rw [if_neg c3] at H
     have c3b0 : (a0 == x3_1) = false := beq_eq_false_iff_ne.mpr c3
     have c3b1 : (a0 != x3_1) = true := bne_iff_ne.mpr c3
     have H' := am H
     clear H
     go_wp2
     go_roundg k1
     case measure => have := HK1.out; omega
     case rel => exact ⟨(wrap64 (2 * x3_1)), (by first | rfl | (simp; done) | (simp [*]; done)), H', ⟨by have := HK1.out; omega⟩, by repeat (first | exact Drawn0.refl _ | apply Drawn0.step)⟩
   ·rw [if_neg c2] at H
    have c2b0 : decide (x3_1 ≤ 4096) = false := decide_eq_false c2
    clear c2
    obtain rfl := Option.some.inj H
    go_wp2
    go_ret
    exact ⟨by first | rfl | (simp; done) | (simp [*]; done), by repeat (first | exact Drawn0.refl _ | apply Drawn0.step)⟩
def r05_left.f (a0 : Int) (a1 : Int) : Option (Int) := if 0 ≤ a1 then (if 0 ≤ (IntKind.u64.wrap (64 - a1)) then (some (Go.bits .or .u64 (shl .u64 a0 a1) (shr .u64 a0 (IntKind.u64.wrap (64 - a1))))) else (none)) else (none)
set_option maxHeartbeats 8000000 in
set_option maxRecDepth 100000 in
theorem r05_left.calls (a0 : Int) (a1 : Int) (r : Int) (w : World) (h : r05_left.f a0 a1 = some r) :
  Calls Try.prog 45 #[.int .u64 a0, .int .u64 a1] w fun e w' => e = .returned (.int .u64 r) ∧ Below w.heap.size w w' := by
 have HB := am (Below.refl w.heap.size w)
 have H : (if 0 ≤ a1 then (if 0 ≤ (IntKind.u64.wrap (64 - a1)) then (some (Go.bits .or .u64 (shl .u64 a0 a1) (shr .u64 a0 (IntKind.u64.wrap (64 - a1))))) else (none)) else (none)) = some r := h
 clear h
 by_cases c3 : 0 ≤ a1
 rotate_left
 ·rw [if_neg c3] at H
  exact absurd H (by simp)
 rw [if_pos c3] at H
 have c3b0 := eq_true c3
 have c3b1 : decide (0 ≤ a1) = true := decide_eq_true c3
 clear c3
 obtain ⟨ji4, hji4⟩ : ∃ j_ : Int, (shl .u64 a0 a1) = j_ := ⟨_, rfl⟩
 replace H : (if 0 ≤ (IntKind.u64.wrap (64 - a1)) then (some (Go.bits .or .u64 (ji4) (shr .u64 a0 (IntKind.u64.wrap (64 - a1))))) else (none)) = some r := by first | (rw [hji4] at H; exact H) | (simp only [hji4] at H ⊢; exact H)
 have hji4_ : (IntKind.u64.wrap (a0 * 2 ^ min a1.toNat 64)) = ji4 := hji4
 have hji4z : a1 ≤ 64 → (IntKind.u64.wrap (a0 * 2 ^ a1.toNat)) = ji4 := shl_small hji4
 obtain ⟨ji5, hji5⟩ : ∃ j_ : Int, (IntKind.u64.wrap (64 - a1)) = j_ := ⟨_, rfl⟩
 replace H : (if 0 ≤ (ji5) then (some (Go.bits .or .u64 (ji4) (shr .u64 a0 (ji5)))) else (none)) = some r := by first | (rw [hji5] at H; exact H) | (simp only [hji5] at H ⊢; exact H)
 by_cases c6 : 0 ≤ (ji5)
 rotate_left
 ·rw [if_neg c6] at H
  exact absurd H (by simp)
 rw [if_pos c6] at H
 have c6b0 := eq_true c6
 have c6b1 : decide (0 ≤ (ji5)) = true := decide_eq_true c6
 clear c6
 obtain ⟨ji7, hji7⟩ : ∃ j_ : Int, (shr .u64 a0 (ji5)) = j_ := ⟨_, rfl⟩
 replace H : (some (Go.bits .or .u64 (ji4) (ji7))) = some r := by first | (rw [hji7] at H; exact H) | (simp only [hji7] at H ⊢; exact H)
 have hji7_ : (a0 / 2 ^ min (ji5).toNat 64) = ji7 := hji7
 have hji7z : (ji5) ≤ 64 → (a0 / 2 ^ (ji5).toNat) = ji7 := shr_small hji7
 obtain rfl := Option.some.inj H
 go_enter Try.func45, Try.ntmps45
 go_wp2
 go_ret
 exact ⟨by first | rfl | (simp [errW_none, errW_some] <;> rfl) | (simp only [← hji4, ← hji5, ← hji7]; first | rfl | (simp [errW_none, errW_some] <;> rfl)) | (simp [*, errW_none, errW_some] <;> rfl), pb HB⟩
def r05_turns.l0 : Nat → Int → Int → Int → Int → Int → Int → Option (Int × Int × Int × Int)
 | 0, _, _, _, _, _, _ => none
 | k + 1, x1, x5, x288000, x288001, x288002, x288003 => if x5 < x1 then ((r05_left.f x288001 13).bind fun t289 => ((r05_left.f (IntKind.u64.wrap (x288000 + x288001)) 32).bind fun t290 => ((r05_left.f x288003 16).bind fun t291 => ((r05_left.f (Go.bits .xor .u64 t291 (IntKind.u64.wrap (x288002 + x288003))) 21).bind fun t292 => ((r05_left.f (Go.bits .xor .u64 t289 (IntKind.u64.wrap (x288000 + x288001))) 17).bind fun t293 => ((r05_left.f (IntKind.u64.wrap ((IntKind.u64.wrap (x288002 + x288003)) + (Go.bits .xor .u64 t289 (IntKind.u64.wrap (x288000 + x288001))))) 32).bind fun t294 => (r05_turns.l0 k x1 (wrap64 (x5 + 1)) (IntKind.u64.wrap (t290 + (Go.bits .xor .u64 t291 (IntKind.u64.wrap (x288002 + x288003))))) (Go.bits .xor .u64 t293 (IntKind.u64.wrap ((IntKind.u64.wrap (x288002 + x288003)) + (Go.bits .xor .u64 t289 (IntKind.u64.wrap (x288000 + x288001)))))) t294 (Go.bits .xor .u64 t292 (IntKind.u64.wrap (t290 + (Go.bits .xor .u64 t291 (IntKind.u64.wrap (x288002 + x288003))))))))))))) else (some (x288000, x288001, x288002, x288003))
def r05_turns.f (k : Nat) (a0_0 : Int) (a0_1 : Int) (a0_2 : Int) (a0_3 : Int) (a1 : Int) : Option (Int × Int × Int × Int) := r05_turns.l0 k a1 0 a0_0 a0_1 a0_2 a0_3
theorem r05_turns.mono_l : ∀ k, (∀ y0 y1 y2 y3 y4 y5, LeO (r05_turns.l0 k y0 y1 y2 y3 y4 y5) (r05_turns.l0 (k + 1) y0 y1 y2 y3 y4 y5))
 | 0 => fun _ _ _ _ _ _ r h => by simp [r05_turns.l0] at h
 | k + 1 => by
  have ih0 := r05_turns.mono_l k
  ·intro y0 y1 y2 y3 y4 y5
   unfold r05_turns.l0
   repeat' first
   | (with_reducible exact ih0 _ _ _ _ _ _)
   | (with_reducible exact LeO.refl _)
   | (with_reducible exact LeO.none _)
   | (with_reducible refine LeO.ite ?_ ?_)
   | (with_reducible refine LeO.bind ?_ (fun _ => ?_))
theorem r05_turns.mono : ∀ a0 a1 a2 a3 a4 k, LeO (r05_turns.f k a0 a1 a2 a3 a4) (r05_turns.f (k + 1) a0 a1 a2 a3 a4) := by
 intro a0 a1 a2 a3 a4 k
 have ih0 := r05_turns.mono_l k
 unfold r05_turns.f
 repeat' first
   | (with_reducible exact ih0 _ _ _ _ _ _)
   | (with_reducible exact LeO.refl _)
   | (with_reducible exact LeO.none _)
   | (with_reducible refine LeO.ite ?_ ?_)
   | (with_reducible refine LeO.bind ?_ (fun _ => ?_))
def r05_turns.T5 : Bool × List (List Nat × List Nat) := (true, [([], []), ([0], [0]), ([1], [1]), ([], []), ([3], [3]), ([2, 4], [2, 4]), ([0, 1, 2, 3, 4, 5], []), ([6, 5, 2, 0, 1, 2, 3, 4, 5], [5, 6])])
def r05_turns.B5 : List Nat := [0, 1, 3, 0, 8, 31, 63, 127]
theorem r05_turns.tab5 : rtab .any (opsOf Try.f41 5) = r05_turns.T5 := by kernel_rfl
theorem r05_turns.bits5 : waitsOk r05_turns.T5.2 r05_turns.B5 = true := by kernel_rfl
def r05_turns.T8 : Bool × List (List Nat × List Nat) := (true, [([], []), ([0], [0]), ([1], [1]), ([], []), ([3], [3]), ([2, 4], [2, 4]), ([0, 1, 2, 3, 4, 5], []), ([6, 5, 2, 0, 1, 2, 3, 4, 5], [5, 6])])
def r05_turns.B8 : List Nat := [0, 1, 3, 0, 8, 31, 63, 127]
theorem r05_turns.tab8 : rtab .any (opsOf Try.f41 8) = r05_turns.T8 := by kernel_rfl
theorem r05_turns.bits8 : waitsOk r05_turns.T8.2 r05_turns.B8 = true := by kernel_rfl
def r05_turns.T10 : Bool × List (List Nat × List Nat) := (true, [([], []), ([0], [0]), ([1], [1]), ([], []), ([3], [3]), ([2, 4], [2, 4]), ([0, 1, 2, 3, 4, 5], []), ([6, 5, 2, 0, 1, 2, 3, 4, 5], [5, 6])])
def r05_turns.B10 : List Nat := [0, 1, 3, 0, 8, 31, 63, 127]
theorem r05_turns.tab10 : rtab .any (opsOf Try.f41 10) = r05_turns.T10 := by kernel_rfl
theorem r05_turns.bits10 : waitsOk r05_turns.T10.2 r05_turns.B10 = true := by kernel_rfl
def r05_turns.T12 : Bool × List (List Nat × List Nat) := (true, [([], []), ([0], [0]), ([1], [1]), ([], []), ([3], [3]), ([2, 4], [2, 4]), ([0, 1, 2, 3, 4, 5], []), ([6, 5, 2, 0, 1, 2, 3, 4, 5], [5, 6])])
def r05_turns.B12 : List Nat := [0, 1, 3, 0, 8, 31, 63, 127]
theorem r05_turns.tab12 : rtab .any (opsOf Try.f41 12) = r05_turns.T12 := by kernel_rfl
theorem r05_turns.bits12 : waitsOk r05_turns.T12.2 r05_turns.B12 = true := by kernel_rfl
set_option maxHeartbeats 8000000 in
set_option maxRecDepth 100000 in
theorem r05_turns.calls (k : Nat) (a0_0 : Int) (a0_1 : Int) (a0_2 : Int) (a0_3 : Int) (a1 : Int) (r1 : Int) (r2 : Int) (r3 : Int) (r4 : Int) (w : World) (h : r05_turns.f k a0_0 a0_1 a0_2 a0_3 a1 = some (r1, r2, r3, r4)) :
  Calls Try.prog 41 #[.agg #[.int .u64 a0_0, .int .u64 a0_1, .int .u64 a0_2, .int .u64 a0_3], .int .i64 a1] w fun e w' => e = .returned (.agg #[.int .u64 r1, .int .u64 r2, .int .u64 r3, .int .u64 r4]) ∧ Below w.heap.size w w' := by
 have hu76 := Try.underlying76
 have HB := am (Below.refl w.heap.size w)
 have H : (r05_turns.l0 k a1 0 a0_0 a0_1 a0_2 a0_3) = some (r1, r2, r3, r4) := h
 clear h
 have H' := am H
 clear H
 go_enter Try.func41, Try.ntmps41
 go_wp2_with (first | ((with_reducible refine gate_dst (N := 2) rfl ?_); refine be 2 #[.int .u64 a0_0, .int .u64 a0_1, .int .u64 a0_2, .int .u64 a0_3] 76 ?_; intro gb287 hg w3 hbox hb; have n0_ := am (below_step (pb HB) hb); have n1_ := am (hbox); have n2_ := am ((pg hg HB : w.heap.size ≤ gb287)); have n3_ := am ((pg hg HB : w.heap.size ≤ gb287)); clear HB; have HB := n0_; have BK287 := n1_; have GW287 := n2_; have GE287 := n3_; clear n0_ n1_ n2_ n3_; clear hb hbox hg) | ((with_reducible refine gate_dst (N := 4) rfl ?_); refine be 4 #[.int .u64 0, .int .u64 0, .int .u64 0, .int .u64 0] 76 ?_; intro gb288 hg w4 hbox hb; have n0_ := am (blk_below (pk BK287.out) hb); have n1_ := am (below_step (pb HB) hb); have n2_ := am (hbox); have n3_ := am ((pg hg HB : w.heap.size ≤ gb288)); have n4_ := am ((pg hg HB : w.heap.size ≤ gb288)); have n5_ := am ((pl hg (pk BK287.out) : gb287 ≠ gb288)); have n6_ := am ((pl' hg (pk BK287.out) : gb288 ≠ gb287)); clear BK287; clear HB; have BK287 := n0_; have HB := n1_; have BK288 := n2_; have GW288 := n3_; have GE288 := n4_; have NB287_288 := n5_; have NB288_287 := n6_; clear n0_ n1_ n2_ n3_ n4_ n5_ n6_; clear hb hbox hg))
 go_loopg [5] k (fun kq v5 w' => ∃ (x5_1 : Int) (x288000_1 : Int) (x288001_1 : Int) (x288002_1 : Int) (x288003_1 : Int), v5 = .int .i64 x5_1 ∧ Aside0 (r05_turns.l0 kq a1 x5_1 x288000_1 x288001_1 x288002_1 x288003_1 = some (r1, r2, r3, r4)) ∧ Aside0 (kq ≤ k) ∧ Aside0 (w'.heap[gb287]? = some (.cells #[.int .u64 x288000_1, .int .u64 x288001_1, .int .u64 x288002_1, .int .u64 x288003_1] 76 (0, 0))) ∧ Aside0 (w'.heap[gb288]? = some (.cells #[.int .u64 0, .int .u64 0, .int .u64 0, .int .u64 0] 76 (0, 0))) ∧ Aside0 (Below w.heap.size w w'))
 case atStart => exact ⟨(0), (a0_0), (a0_1), (a0_2), (a0_3), (by first | rfl | (simp; done) | (simp [*]; done)), H', ⟨Nat.le_refl _⟩, ⟨pk BK287.out⟩, ⟨pk BK288.out⟩, ⟨pb HB⟩⟩
 case round =>
  clear H'
  try clear p2
  try clear c4
  obtain ⟨x5_1, x288000_1, x288001_1, x288002_1, x288003_1, rfl, HA, HK1, BK287, BK288, HB⟩ := hrel
  cases gk with
  | zero => exact absurd HA.out (by simp [r05_turns.l0])
  | succ k1 =>
   have H := HA.out
   clear HA
   simp only [r05_turns.l0] at H
   by_cases c5 : x5_1 < a1
   ·rw [if_pos c5] at H
    have c5b0 : decide (x5_1 < a1) = true := decide_eq_true c5
    clear c5
    replace H := Option.bind_eq_some_iff.mp H
    obtain ⟨t289, A60, H⟩ := H
    replace H : ((r05_left.f (IntKind.u64.wrap (x288000_1 + x288001_1)) 32).bind fun t290 => ((r05_left.f x288003_1 16).bind fun t291 => ((r05_left.f (Go.bits .xor .u64 t291 (IntKind.u64.wrap (x288002_1 + x288003_1))) 21).bind fun t292 => ((r05_left.f (Go.bits .xor .u64 t289 (IntKind.u64.wrap (x288000_1 + x288001_1))) 17).bind fun t293 => ((r05_left.f (IntKind.u64.wrap ((IntKind.u64.wrap (x288002_1 + x288003_1)) + (Go.bits .xor .u64 t289 (IntKind.u64.wrap (x288000_1 + x288001_1))))) 32).bind fun t294 => (r05_turns.l0 k1 a1 (wrap64 (x5_1 + 1)) (IntKind.u64.wrap (t290 + (Go.bits .xor .u64 t291 (IntKind.u64.wrap (x288002_1 + x288003_1))))) (Go.bits .xor .u64 t293 (IntKind.u64.wrap ((IntKind.u64.wrap (x288002_1 + x288003_1)) + (Go.bits .xor .u64 t289 (IntKind.u64.wrap (x288000_1 + x288001_1)))))) t294 (Go.bits .xor .u64 t292 (IntKind.u64.wrap (t290 + (Go.bits .xor .u64 t291 (IntKind.u64.wrap (x288002_1 + x288003_1)))))))))))) = some (r1, r2, r3, r4) := H
    have A6 := am A60
    clear A60
    replace H := Option.bind_eq_some_iff.mp H
    obtain ⟨t290, A70, H⟩ := H
    replace H : ((r05_left.f x288003_1 16).bind fun t291 => ((r05_left.f (Go.bits .xor .u64 t291 (IntKind.u64.wrap (x288002_1 + x288003_1))) 21).bind fun t292 => ((r05_left.f (Go.bits .xor .u64 t289 (IntKind.u64.wrap (x288000_1 + x288001_1))) 17).bind fun t293 => ((r05_left.f (IntKind.u64.wrap ((IntKind.u64.wrap (x288002_1 + x288003_1)) + (Go.bits .xor .u64 t289 (IntKind.u64.wrap (x288000_1 + x288001_1))))) 32).bind fun t294 => (r05_turns.l0 k1 a1 (wrap64 (x5_1 + 1)) (IntKind.u64.wrap (t290 + (Go.bits .xor .u64 t291 (IntKind.u64.wrap (x288002_1 + x288003_1))))) (Go.bits .xor .u64 t293 (IntKind.u64.wrap ((IntKind.u64.wrap (x288002_1 + x288003_1)) + (Go.bits .xor .u64 t289 (IntKind.u64.wrap (x288000_1 + x288001_1)))))) t294 (Go.bits .xor .u64 t292 (IntKind.u64.wrap (t290 + (Go.bits .xor .u64 t291 (IntKind.u64.wrap (x288002_1 + x288003_1))))))))))) = some (r1, r2, r3, r4) := H
    have A7 := am A70
    clear A70
    replace H := Option.bind_eq_some_iff.mp H
    obtain ⟨t291, A80, H⟩ := H
    replace H : ((r05_left.f (Go.bits .xor .u64 t291 (IntKind.u64.wrap (x288002_1 + x288003_1))) 21).bind fun t292 => ((r05_left.f (Go.bits .xor .u64 t289 (IntKind.u64.wrap (x288000_1 + x288001_1))) 17).bind fun t293 => ((r05_left.f (IntKind.u64.wrap ((IntKind.u64.wrap (x288002_1 + x288003_1)) + (Go.bits .xor .u64 t289 (IntKind.u64.wrap (x288000_1 + x288001_1))))) 32).bind fun t294 => (r05_turns.l0 k1 a1 (wrap64 (x5_1 + 1)) (IntKind.u64.wrap (t290 + (Go.bits .xor .u64 t291 (IntKind.u64.wrap (x288002_1 + x288003_1))))) (Go.bits .xor .u64 t293 (IntKind.u64.wrap ((IntKind.u64.wrap (x288002_1 + x288003_1)) + (Go.bits .xor .u64 t289 (IntKind.u64.wrap (x288000_1 + x288001_1)))))) t294 (Go.bits .xor .u64 t292 (IntKind.u64.wrap (t290 + (Go.bits .xor .u64 t291 (IntKind.u64.wrap (x288002_1 + x288003_1)))))))))) = some (r1, r2, r3, r4) := H
    have A8 := am A80
    clear A80
    replace H := Option.bind_eq_some_iff.mp H
    obtain ⟨t292, A90, H⟩ := H
    replace H : ((r05_left.f (Go.bits .xor .u64 t289 (IntKind.u64.wrap (x288000_1 + x288001_1))) 17).bind fun t293 => ((r05_left.f (IntKind.u64.wrap ((IntKind.u64.wrap (x288002_1 + x288003_1)) + (Go.bits .xor .u64 t289 (IntKind.u64.wrap (x288000_1 + x288001_1))))) 32).bind fun t294 => (r05_turns.l0 k1 a1 (wrap64 (x5_1 + 1)) (IntKind.u64.wrap (t290 + (Go.bits .xor .u64 t291 (IntKind.u64.wrap (x288002_1 + x288003_1))))) (Go.bits .xor .u64 t293 (IntKind.u64.wrap ((IntKind.u64.wrap (x288002_1 + x288003_1)) + (Go.bits .xor .u64 t289 (IntKind.u64.wrap (x288000_1 + x288001_1)))))) t294 (Go.bits .xor .u64 t292 (IntKind.u64.wrap (t290 + (Go.bits .xor .u64 t291 (IntKind.u64.wrap (x288002_1 + x288003_1))))))))) = some (r1, r2, r3, r4) := H
    have A9 := am A90
    clear A90
    replace H := Option.bind_eq_some_iff.mp H
    obtain ⟨t293, A100, H⟩ := H
    replace H : ((r05_left.f (IntKind.u64.wrap ((IntKind.u64.wrap (x288002_1 + x288003_1)) + (Go.bits .xor .u64 t289 (IntKind.u64.wrap (x288000_1 + x288001_1))))) 32).bind fun t294 => (r05_turns.l0 k1 a1 (wrap64 (x5_1 + 1)) (IntKind.u64.wrap (t290 + (Go.bits .xor .u64 t291 (IntKind.u64.wrap (x288002_1 + x288003_1))))) (Go.bits .xor .u64 t293 (IntKind.u64.wrap ((IntKind.u64.wrap (x288002_1 + x288003_1)) + (Go.bits .xor .u64 t289 (IntKind.u64.wrap (x288000_1 + x288001_1)))))) t294 (Go.bits .xor .u64 t292 (IntKind.u64.wrap (t290 + (Go.bits .xor .u64 t291 (IntKind.u64.wrap (x288002_1 + x288003_1)))))))) = some (r1, r2, r3, r4) := H
    have A10 := am A100
    clear A100
    replace H := Option.bind_eq_some_iff.mp H
    obtain ⟨t294, A110, H⟩ := H
    replace H : (r05_turns.l0 k1 a1 (wrap64 (x5_1 + 1)) (IntKind.u64.wrap (t290 + (Go.bits .xor .u64 t291 (IntKind.u64.wrap (x288002_1 + x288003_1))))) (Go.bits .xor .u64 t293 (IntKind.u64.wrap ((IntKind.u64.wrap (x288002_1 + x288003_1)) + (Go.bits .xor .u64 t289 (IntKind.u64.wrap (x288000_1 + x288001_1)))))) t294 (Go.bits .xor .u64 t292 (IntKind.u64.wrap (t290 + (Go.bits .xor .u64 t291 (IntKind.u64.wrap (x288002_1 + x288003_1))))))) = some (r1, r2, r3, r4) := H
    have A11 := am A110
    clear A110
    have H' := am H
    clear H
    have hnb12 := NB287_288.out
    have hnc12 := NB288_287.out
    have hcz13_0 := ce BK287 0
    have hcz13_1 := ce BK287 1
    have hcz13_2 := ce BK287 2
    have hcz13_3 := ce BK287 3
    have hfz13_0 := fz BK287 0
    have hfz13_1 := fz BK287 1
    have hfz13_2 := fz BK287 2
    have hfz13_3 := fz BK287 3
    try go_wp2
    have n0_ : Aside0 ((wr.setCell ⟨gb287, 0, none⟩ (.int .u64 (IntKind.u64.wrap (x288000_1 + x288001_1)))).heap[gb287]? = some (.cells #[.int .u64 (IntKind.u64.wrap (x288000_1 + x288001_1)), .int .u64 x288001_1, .int .u64 x288002_1, .int .u64 x288003_1] 76 (0, 0))) := ⟨by refine pk ?_; refine blk_put (cs := #[.int .u64 x288000_1, .int .u64 x288001_1, .int .u64 x288002_1, .int .u64 x288003_1]) ?_ 0 _ rfl; refine pk ?_; exact BK287.out⟩
    have n1_ : Aside0 ((wr.setCell ⟨gb287, 0, none⟩ (.int .u64 (IntKind.u64.wrap (x288000_1 + x288001_1)))).heap[gb288]? = some (.cells #[.int .u64 0, .int .u64 0, .int .u64 0, .int .u64 0] 76 (0, 0))) := ⟨by refine pk ?_; refine blk_far ?_ NB288_287.out _; refine pk ?_; exact BK288.out⟩
    have n2_ : Aside0 (Below w.heap.size w (wr.setCell ⟨gb287, 0, none⟩ (.int .u64 (IntKind.u64.wrap (x288000_1 + x288001_1))))) := ⟨pb HB⟩
    (try clear BK287)
    (try clear BK288)
    (try clear HB)
    generalize (wr.setCell ⟨gb287, 0, none⟩ (.int .u64 (IntKind.u64.wrap (x288000_1 + x288001_1)))) = w14 at n0_ n1_ n2_ ⊢
    have BK287 := n0_
    have BK288 := n1_
    have HB := n2_
    clear n0_ n1_ n2_
    replace BK287 := am (blk_drew BK287.out)
    replace BK288 := am (blk_drew BK288.out)
    replace HB := am (below_drew1 HB.out)
    refine start_ (n := 8) (S := fun w' => w'.cell? ⟨gb287, 0, none⟩ = some (.int .u64 (IntKind.u64.wrap (x288000_1 + x288001_1))) ∧ w'.cell? ⟨gb287, 1, none⟩ = some (.int .u64 x288001_1) ∧ w'.cell? ⟨gb287, 2, none⟩ = some (.int .u64 x288002_1) ∧ w'.cell? ⟨gb287, 3, none⟩ = some (.int .u64 x288003_1)) (ds := [7]) #[false, false, false, false, false, false, false, false] (by kernel_rfl) rfl rfl ⟨ce BK287 0, ce BK287 1, ce BK287 2, ce BK287 3⟩ (fun hHeld => ?_); refine with_tabW r05_turns.tab5 r05_turns.bits5 (fun HT_ HW_ => ?_)
    generalize w14.drew = w15 at BK287 BK288 HB hHeld ⊢
    refine pu 0 ?_
    refine pu 3 ?_
    refine ta 1 hHeld ?_
    refine ta 4 hHeld ?_
    refine on1 2 (fun K hK => ?_)
    refine gs Try.func45 #[.int .u64 x288001_1, .int .u64 13] ?_
    with_reducible refine (r05_left.calls x288001_1 13 t289 _ A6.out).mono ?_
    rintro e w16 ⟨rfl, hb⟩
    refine ⟨_, rfl, ?_⟩
    replace BK287 := am (blk_below (pk BK287.out) hb)
    replace BK288 := am (blk_below (pk BK288.out) hb)
    replace HB := am (below_step (pb HB) hb)
    (try clear hb)
    (try clear hb2)
    (try clear hk)
    (try clear hi)
    refine hK.out _ _ ⟨ce BK287 0, ce BK287 1, ce BK287 2, ce BK287 3⟩ (fun hHeld => ?_)
    clear hK K
    refine nm ?_
    refine pu 5 ?_
    refine pu 6 ?_
    refine last_ (i := 7) (N := none) #[true, true, true, true, true, true, true, true] rfl rfl (one_of HT_.out (by kernel_rfl)) (by decide) (fun K hK => ?_)
    have hs17 : w16.cell? ⟨gb287, 1, none⟩ = some (.int .u64 x288001_1) := ce BK287 1
    have hfs17 := blk_frozen BK287.out 1
    have hns17_1 := NB288_287.out
    have hms17_1 := NB287_288.out
    refine skip_ (w1 := ?_) (by rfl) rfl ?_ ?_
    rotate_left
    ·go_simp
     rfl
    refine hK.out _ _ ?_
    clear hK K
    refine done_ (done_of HT_.out (by kernel_rfl)) ?_
    have hcz18_0 : w16.cell? ⟨gb287, 0, none⟩ = some (.int .u64 (IntKind.u64.wrap (x288000_1 + x288001_1))) := ce BK287 0
    have hcz18_1 := ce BK287 1
    have hcz18_2 := ce BK287 2
    have hcz18_3 := ce BK287 3
    have hfz18_0 := fz BK287 0
    have hfz18_1 := fz BK287 1
    have hfz18_2 := fz BK287 2
    have hfz18_3 := fz BK287 3
    try go_wp2_with (first | ((with_reducible refine gate_callee (f := 45) rfl ?_); refine gl (some 26) Try.func45 #[.int .u64 (IntKind.u64.wrap (x288000_1 + x288001_1)), .int .u64 32] ?_; (with_reducible refine (r05_left.calls (IntKind.u64.wrap (x288000_1 + x288001_1)) 32 t290 _ A7.out).mono ?_); rintro e w19 ⟨rfl, hb⟩; refine ⟨_, rfl, ?_⟩; replace BK287 := am (blk_below (g := gb287) (o := .cells #[.int .u64 (IntKind.u64.wrap (x288000_1 + x288001_1)), .int .u64 (Go.bits .xor .u64 t289 (IntKind.u64.wrap (x288000_1 + x288001_1))), .int .u64 x288002_1, .int .u64 x288003_1] 76 (0, 0)) (by refine pk ?_; refine blk_put (cs := #[.int .u64 (IntKind.u64.wrap (x288000_1 + x288001_1)), .int .u64 x288001_1, .int .u64 x288002_1, .int .u64 x288003_1]) ?_ 1 _ rfl; refine pk ?_; exact BK287.out) hb); replace BK288 := am (blk_below (g := gb288) (o := .cells #[.int .u64 0, .int .u64 0, .int .u64 0, .int .u64 0] 76 (0, 0)) (by refine pk ?_; refine blk_far ?_ NB288_287.out _; refine pk ?_; exact BK288.out) hb); replace HB := am (below_step (pb HB) hb); (try clear hb); (try clear hb2); (try clear hk); (try clear hi); have hcz20_0 : w19.cell? ⟨gb287, 0, none⟩ = some (.int .u64 (IntKind.u64.wrap (x288000_1 + x288001_1))) := ce BK287 0; have hcz20_1 : w19.cell? ⟨gb287, 1, none⟩ = some (.int .u64 (Go.bits .xor .u64 t289 (IntKind.u64.wrap (x288000_1 + x288001_1)))) := ce BK287 1; have hcz20_2 := ce BK287 2; have hcz20_3 := ce BK287 3; have hfz20_0 := fz BK287 0; have hfz20_1 := fz BK287 1; have hfz20_2 := fz BK287 2; have hfz20_3 := fz BK287 3))
    have n0_ : Aside0 (((w19.setCell ⟨gb287, 0, none⟩ (.int .u64 t290)).setCell ⟨gb287, 2, none⟩ (.int .u64 (IntKind.u64.wrap (x288002_1 + x288003_1)))).heap[gb287]? = some (.cells #[.int .u64 t290, .int .u64 (Go.bits .xor .u64 t289 (IntKind.u64.wrap (x288000_1 + x288001_1))), .int .u64 (IntKind.u64.wrap (x288002_1 + x288003_1)), .int .u64 x288003_1] 76 (0, 0))) := ⟨by refine pk ?_; refine blk_put (cs := #[.int .u64 t290, .int .u64 (Go.bits .xor .u64 t289 (IntKind.u64.wrap (x288000_1 + x288001_1))), .int .u64 x288002_1, .int .u64 x288003_1]) ?_ 2 _ rfl; refine pk ?_; refine blk_put (cs := #[.int .u64 (IntKind.u64.wrap (x288000_1 + x288001_1)), .int .u64 (Go.bits .xor .u64 t289 (IntKind.u64.wrap (x288000_1 + x288001_1))), .int .u64 x288002_1, .int .u64 x288003_1]) ?_ 0 _ rfl; refine pk ?_; exact BK287.out⟩
    have n1_ : Aside0 (((w19.setCell ⟨gb287, 0, none⟩ (.int .u64 t290)).setCell ⟨gb287, 2, none⟩ (.int .u64 (IntKind.u64.wrap (x288002_1 + x288003_1)))).heap[gb288]? = some (.cells #[.int .u64 0, .int .u64 0, .int .u64 0, .int .u64 0] 76 (0, 0))) := ⟨by refine pk ?_; refine blk_far ?_ NB288_287.out _; refine pk ?_; refine blk_far ?_ NB288_287.out _; refine pk ?_; exact BK288.out⟩
    have n2_ : Aside0 (Below w.heap.size w ((w19.setCell ⟨gb287, 0, none⟩ (.int .u64 t290)).setCell ⟨gb287, 2, none⟩ (.int .u64 (IntKind.u64.wrap (x288002_1 + x288003_1))))) := ⟨pb HB⟩
    (try clear BK287)
    (try clear BK288)
    (try clear HB)
    generalize ((w19.setCell ⟨gb287, 0, none⟩ (.int .u64 t290)).setCell ⟨gb287, 2, none⟩ (.int .u64 (IntKind.u64.wrap (x288002_1 + x288003_1)))) = w21 at n0_ n1_ n2_ ⊢
    have BK287 := n0_
    have BK288 := n1_
    have HB := n2_
    clear n0_ n1_ n2_
    replace BK287 := am (blk_drew BK287.out)
    replace BK288 := am (blk_drew BK288.out)
    replace HB := am (below_drew1 HB.out)
    refine start_ (n := 8) (S := fun w' => w'.cell? ⟨gb287, 0, none⟩ = some (.int .u64 t290) ∧ w'.cell? ⟨gb287, 1, none⟩ = some (.int .u64 (Go.bits .xor .u64 t289 (IntKind.u64.wrap (x288000_1 + x288001_1)))) ∧ w'.cell? ⟨gb287, 2, none⟩ = some (.int .u64 (IntKind.u64.wrap (x288002_1 + x288003_1))) ∧ w'.cell? ⟨gb287, 3, none⟩ = some (.int .u64 x288003_1)) (ds := [7]) #[false, false, false, false, false, false, false, false] (by kernel_rfl) rfl rfl ⟨ce BK287 0, ce BK287 1, ce BK287 2, ce BK287 3⟩ (fun hHeld => ?_); refine with_tabW r05_turns.tab8 r05_turns.bits8 (fun HT_ HW_ => ?_)
    generalize w21.drew = w22 at BK287 BK288 HB hHeld ⊢
    refine pu 0 ?_
    refine pu 3 ?_
    refine ta 1 hHeld ?_
    refine ta 4 hHeld ?_
    refine on1 2 (fun K hK => ?_)
    refine gs Try.func45 #[.int .u64 x288003_1, .int .u64 16] ?_
    with_reducible refine (r05_left.calls x288003_1 16 t291 _ A8.out).mono ?_
    rintro e w23 ⟨rfl, hb⟩
    refine ⟨_, rfl, ?_⟩
    replace BK287 := am (blk_below (pk BK287.out) hb)
    replace BK288 := am (blk_below (pk BK288.out) hb)
    replace HB := am (below_step (pb HB) hb)
    (try clear hb)
    (try clear hb2)
    (try clear hk)
    (try clear hi)
    refine hK.out _ _ ⟨ce BK287 0, ce BK287 1, ce BK287 2, ce BK287 3⟩ (fun hHeld => ?_)
    clear hK K
    refine nm ?_
    refine pu 5 ?_
    refine pu 6 ?_
    refine last_ (i := 7) (N := none) #[true, true, true, true, true, true, true, true] rfl rfl (one_of HT_.out (by kernel_rfl)) (by decide) (fun K hK => ?_)
    have hs24 : w23.cell? ⟨gb287, 3, none⟩ = some (.int .u64 x288003_1) := ce BK287 3
    have hfs24 := blk_frozen BK287.out 3
    have hns24_1 := NB288_287.out
    have hms24_1 := NB287_288.out
    refine skip_ (w1 := ?_) (by rfl) rfl ?_ ?_
    rotate_left
    ·go_simp
     rfl
    refine hK.out _ _ ?_
    clear hK K
    refine done_ (done_of HT_.out (by kernel_rfl)) ?_
    have hcz25_0 := ce BK287 0
    have hcz25_1 : w23.cell? ⟨gb287, 1, none⟩ = some (.int .u64 (Go.bits .xor .u64 t289 (IntKind.u64.wrap (x288000_1 + x288001_1)))) := ce BK287 1
    have hcz25_2 : w23.cell? ⟨gb287, 2, none⟩ = some (.int .u64 (IntKind.u64.wrap (x288002_1 + x288003_1))) := ce BK287 2
    have hcz25_3 := ce BK287 3
    have hfz25_0 := fz BK287 0
    have hfz25_1 := fz BK287 1
    have hfz25_2 := fz BK287 2
    have hfz25_3 := fz BK287 3
    try go_wp2
    have n0_ : Aside0 (((w23.setCell ⟨gb287, 3, none⟩ (.int .u64 (Go.bits .xor .u64 t291 (IntKind.u64.wrap (x288002_1 + x288003_1))))).setCell ⟨gb287, 0, none⟩ (.int .u64 (IntKind.u64.wrap (t290 + (Go.bits .xor .u64 t291 (IntKind.u64.wrap (x288002_1 + x288003_1))))))).heap[gb287]? = some (.cells #[.int .u64 (IntKind.u64.wrap (t290 + (Go.bits .xor .u64 t291 (IntKind.u64.wrap (x288002_1 + x288003_1))))), .int .u64 (Go.bits .xor .u64 t289 (IntKind.u64.wrap (x288000_1 + x288001_1))), .int .u64 (IntKind.u64.wrap (x288002_1 + x288003_1)), .int .u64 (Go.bits .xor .u64 t291 (IntKind.u64.wrap (x288002_1 + x288003_1)))] 76 (0, 0))) := ⟨by refine pk ?_; refine blk_put (cs := #[.int .u64 t290, .int .u64 (Go.bits .xor .u64 t289 (IntKind.u64.wrap (x288000_1 + x288001_1))), .int .u64 (IntKind.u64.wrap (x288002_1 + x288003_1)), .int .u64 (Go.bits .xor .u64 t291 (IntKind.u64.wrap (x288002_1 + x288003_1)))]) ?_ 0 _ rfl; refine pk ?_; refine blk_put (cs := #[.int .u64 t290, .int .u64 (Go.bits .xor .u64 t289 (IntKind.u64.wrap (x288000_1 + x288001_1))), .int .u64 (IntKind.u64.wrap (x288002_1 + x288003_1)), .int .u64 x288003_1]) ?_ 3 _ rfl; refine pk ?_; exact BK287.out⟩
    have n1_ : Aside0 (((w23.setCell ⟨gb287, 3, none⟩ (.int .u64 (Go.bits .xor .u64 t291 (IntKind.u64.wrap (x288002_1 + x288003_1))))).setCell ⟨gb287, 0, none⟩ (.int .u64 (IntKind.u64.wrap (t290 + (Go.bits .xor .u64 t291 (IntKind.u64.wrap (x288002_1 + x288003_1))))))).heap[gb288]? = some (.cells #[.int .u64 0, .int .u64 0, .int .u64 0, .int .u64 0] 76 (0, 0))) := ⟨by refine pk ?_; refine blk_far ?_ NB288_287.out _; refine pk ?_; refine blk_far ?_ NB288_287.out _; refine pk ?_; exact BK288.out⟩
    have n2_ : Aside0 (Below w.heap.size w ((w23.setCell ⟨gb287, 3, none⟩ (.int .u64 (Go.bits .xor .u64 t291 (IntKind.u64.wrap (x288002_1 + x288003_1))))).setCell ⟨gb287, 0, none⟩ (.int .u64 (IntKind.u64.wrap (t290 + (Go.bits .xor .u64 t291 (IntKind.u64.wrap (x288002_1 + x288003_1)))))))) := ⟨pb HB⟩
    (try clear BK287)
    (try clear BK288)
    (try clear HB)
    generalize ((w23.setCell ⟨gb287, 3, none⟩ (.int .u64 (Go.bits .xor .u64 t291 (IntKind.u64.wrap (x288002_1 + x288003_1))))).setCell ⟨gb287, 0, none⟩ (.int .u64 (IntKind.u64.wrap (t290 + (Go.bits .xor .u64 t291 (IntKind.u64.wrap (x288002_1 + x288003_1))))))) = w26 at n0_ n1_ n2_ ⊢
    have BK287 := n0_
    have BK288 := n1_
    have HB := n2_
    clear n0_ n1_ n2_
    replace BK287 := am (blk_drew BK287.out)
    replace BK288 := am (blk_drew BK288.out)
    replace HB := am (below_drew1 HB.out)
    refine start_ (n := 8) (S := fun w' => w'.cell? ⟨gb287, 0, none⟩ = some (.int .u64 (IntKind.u64.wrap (t290 + (Go.bits .xor .u64 t291 (IntKind.u64.wrap (x288002_1 + x288003_1)))))) ∧ w'.cell? ⟨gb287, 1, none⟩ = some (.int .u64 (Go.bits .xor .u64 t289 (IntKind.u64.wrap (x288000_1 + x288001_1)))) ∧ w'.cell? ⟨gb287, 2, none⟩ = some (.int .u64 (IntKind.u64.wrap (x288002_1 + x288003_1))) ∧ w'.cell? ⟨gb287, 3, none⟩ = some (.int .u64 (Go.bits .xor .u64 t291 (IntKind.u64.wrap (x288002_1 + x288003_1))))) (ds := [7]) #[false, false, false, false, false, false, false, false] (by kernel_rfl) rfl rfl ⟨ce BK287 0, ce BK287 1, ce BK287 2, ce BK287 3⟩ (fun hHeld => ?_); refine with_tabW r05_turns.tab10 r05_turns.bits10 (fun HT_ HW_ => ?_)
    generalize w26.drew = w27 at BK287 BK288 HB hHeld ⊢
    refine pu 0 ?_
    refine pu 3 ?_
    refine ta 1 hHeld ?_
    refine ta 4 hHeld ?_
    refine on1 2 (fun K hK => ?_)
    refine gs Try.func45 #[.int .u64 (Go.bits .xor .u64 t291 (IntKind.u64.wrap (x288002_1 + x288003_1))), .int .u64 21] ?_
    with_reducible refine (r05_left.calls (Go.bits .xor .u64 t291 (IntKind.u64.wrap (x288002_1 + x288003_1))) 21 t292 _ A9.out).mono ?_
    rintro e w28 ⟨rfl, hb⟩
    refine ⟨_, rfl, ?_⟩
    replace BK287 := am (blk_below (pk BK287.out) hb)
    replace BK288 := am (blk_below (pk BK288.out) hb)
    replace HB := am (below_step (pb HB) hb)
    (try clear hb)
    (try clear hb2)
    (try clear hk)
    (try clear hi)
    refine hK.out _ _ ⟨ce BK287 0, ce BK287 1, ce BK287 2, ce BK287 3⟩ (fun hHeld => ?_)
    clear hK K
    refine nm ?_
    refine pu 5 ?_
    refine pu 6 ?_
    refine last_ (i := 7) (N := none) #[true, true, true, true, true, true, true, true] rfl rfl (one_of HT_.out (by kernel_rfl)) (by decide) (fun K hK => ?_)
    have hs29 : w28.cell? ⟨gb287, 3, none⟩ = some (.int .u64 (Go.bits .xor .u64 t291 (IntKind.u64.wrap (x288002_1 + x288003_1)))) := ce BK287 3
    have hfs29 := blk_frozen BK287.out 3
    have hns29_1 := NB288_287.out
    have hms29_1 := NB287_288.out
    refine skip_ (w1 := ?_) (by rfl) rfl ?_ ?_
    rotate_left
    ·go_simp
     rfl
    refine hK.out _ _ ?_
    clear hK K
    refine done_ (done_of HT_.out (by kernel_rfl)) ?_
    have hcz30_0 : w28.cell? ⟨gb287, 0, none⟩ = some (.int .u64 (IntKind.u64.wrap (t290 + (Go.bits .xor .u64 t291 (IntKind.u64.wrap (x288002_1 + x288003_1)))))) := ce BK287 0
    have hcz30_1 : w28.cell? ⟨gb287, 1, none⟩ = some (.int .u64 (Go.bits .xor .u64 t289 (IntKind.u64.wrap (x288000_1 + x288001_1)))) := ce BK287 1
    have hcz30_2 : w28.cell? ⟨gb287, 2, none⟩ = some (.int .u64 (IntKind.u64.wrap (x288002_1 + x288003_1))) := ce BK287 2
    have hcz30_3 : w28.cell? ⟨gb287, 3, none⟩ = some (.int .u64 (Go.bits .xor .u64 t291 (IntKind.u64.wrap (x288002_1 + x288003_1)))) := ce BK287 3
    have hfz30_0 := fz BK287 0
    have hfz30_1 := fz BK287 1
    have hfz30_2 := fz BK287 2
    have hfz30_3 := fz BK287 3
    try go_wp2
    have n0_ : Aside0 (((w28.setCell ⟨gb287, 3, none⟩ (.int .u64 (Go.bits .xor .u64 t292 (IntKind.u64.wrap (t290 + (Go.bits .xor .u64 t291 (IntKind.u64.wrap (x288002_1 + x288003_1)))))))).setCell ⟨gb287, 2, none⟩ (.int .u64 (IntKind.u64.wrap ((IntKind.u64.wrap (x288002_1 + x288003_1)) + (Go.bits .xor .u64 t289 (IntKind.u64.wrap (x288000_1 + x288001_1))))))).heap[gb287]? = some (.cells #[.int .u64 (IntKind.u64.wrap (t290 + (Go.bits .xor .u64 t291 (IntKind.u64.wrap (x288002_1 + x288003_1))))), .int .u64 (Go.bits .xor .u64 t289 (IntKind.u64.wrap (x288000_1 + x288001_1))), .int .u64 (IntKind.u64.wrap ((IntKind.u64.wrap (x288002_1 + x288003_1)) + (Go.bits .xor .u64 t289 (IntKind.u64.wrap (x288000_1 + x288001_1))))), .int .u64 (Go.bits .xor .u64 t292 (IntKind.u64.wrap (t290 + (Go.bits .xor .u64 t291 (IntKind.u64.wrap (x288002_1 + x288003_1))))))] 76 (0, 0))) := ⟨by refine pk ?_; refine blk_put (cs := #[.int .u64 (IntKind.u64.wrap (t290 + (Go.bits .xor .u64 t291 (IntKind.u64.wrap (x288002_1 + x288003_1))))), .int .u64 (Go.bits .xor .u64 t289 (IntKind.u64.wrap (x288000_1 + x288001_1))), .int .u64 (IntKind.u64.wrap (x288002_1 + x288003_1)), .int .u64 (Go.bits .xor .u64 t292 (IntKind.u64.wrap (t290 + (Go.bits .xor .u64 t291 (IntKind.u64.wrap (x288002_1 + x288003_1))))))]) ?_ 2 _ rfl; refine pk ?_; refine blk_put (cs := #[.int .u64 (IntKind.u64.wrap (t290 + (Go.bits .xor .u64 t291 (IntKind.u64.wrap (x288002_1 + x288003_1))))), .int .u64 (Go.bits .xor .u64 t289 (IntKind.u64.wrap (x288000_1 + x288001_1))), .int .u64 (IntKind.u64.wrap (x288002_1 + x288003_1)), .int .u64 (Go.bits .xor .u64 t291 (IntKind.u64.wrap (x288002_1 + x288003_1)))]) ?_ 3 _ rfl; refine pk ?_; exact BK287.out⟩
    have n1_ : Aside0 (((w28.setCell ⟨gb287, 3, none⟩ (.int .u64 (Go.bits .xor .u64 t292 (IntKind.u64.wrap (t290 + (Go.bits .xor .u64 t291 (IntKind.u64.wrap (x288002_1 + x288003_1)))))))).setCell ⟨gb287, 2, none⟩ (.int .u64 (IntKind.u64.wrap ((IntKind.u64.wrap (x288002_1 + x288003_1)) + (Go.bits .xor .u64 t289 (IntKind.u64.wrap (x288000_1 + x288001_1))))))).heap[gb288]? = some (.cells #[.int .u64 0, .int .u64 0, .int .u64 0, .int .u64 0] 76 (0, 0))) := ⟨by refine pk ?_; refine blk_far ?_ NB288_287.out _; refine pk ?_; refine blk_far ?_ NB288_287.out _; refine pk ?_; exact BK288.out⟩
    have n2_ : Aside0 (Below w.heap.size w ((w28.setCell ⟨gb287, 3, none⟩ (.int .u64 (Go.bits .xor .u64 t292 (IntKind.u64.wrap (t290 + (Go.bits .xor .u64 t291 (IntKind.u64.wrap (x288002_1 + x288003_1)))))))).setCell ⟨gb287, 2, none⟩ (.int .u64 (IntKind.u64.wrap ((IntKind.u64.wrap (x288002_1 + x288003_1)) + (Go.bits .xor .u64 t289 (IntKind.u64.wrap (x288000_1 + x288001_1)))))))) := ⟨pb HB⟩
    (try clear BK287)
    (try clear BK288)
    (try clear HB)
    generalize ((w28.setCell ⟨gb287, 3, none⟩ (.int .u64 (Go.bits .xor .u64 t292 (IntKind.u64.wrap (t290 + (Go.bits .xor .u64 t291 (IntKind.u64.wrap (x288002_1 + x288003_1)))))))).setCell ⟨gb287, 2, none⟩ (.int .u64 (IntKind.u64.wrap ((IntKind.u64.wrap (x288002_1 + x288003_1)) + (Go.bits .xor .u64 t289 (IntKind.u64.wrap (x288000_1 + x288001_1))))))) = w31 at n0_ n1_ n2_ ⊢
    have BK287 := n0_
    have BK288 := n1_
    have HB := n2_
    clear n0_ n1_ n2_
    replace BK287 := am (blk_drew BK287.out)
    replace BK288 := am (blk_drew BK288.out)
    replace HB := am (below_drew1 HB.out)
    refine start_ (n := 8) (S := fun w' => w'.cell? ⟨gb287, 0, none⟩ = some (.int .u64 (IntKind.u64.wrap (t290 + (Go.bits .xor .u64 t291 (IntKind.u64.wrap (x288002_1 + x288003_1)))))) ∧ w'.cell? ⟨gb287, 1, none⟩ = some (.int .u64 (Go.bits .xor .u64 t289 (IntKind.u64.wrap (x288000_1 + x288001_1)))) ∧ w'.cell? ⟨gb287, 2, none⟩ = some (.int .u64 (IntKind.u64.wrap ((IntKind.u64.wrap (x288002_1 + x288003_1)) + (Go.bits .xor .u64 t289 (IntKind.u64.wrap (x288000_1 + x288001_1)))))) ∧ w'.cell? ⟨gb287, 3, none⟩ = some (.int .u64 (Go.bits .xor .u64 t292 (IntKind.u64.wrap (t290 + (Go.bits .xor .u64 t291 (IntKind.u64.wrap (x288002_1 + x288003_1)))))))) (ds := [7]) #[false, false, false, false, false, false, false, false] (by kernel_rfl) rfl rfl ⟨ce BK287 0, ce BK287 1, ce BK287 2, ce BK287 3⟩ (fun hHeld => ?_); refine with_tabW r05_turns.tab12 r05_turns.bits12 (fun HT_ HW_ => ?_)
    generalize w31.drew = w32 at BK287 BK288 HB hHeld ⊢
    refine pu 0 ?_
    refine pu 3 ?_
    refine ta 1 hHeld ?_
    refine ta 4 hHeld ?_
    refine on1 2 (fun K hK => ?_)
    refine gs Try.func45 #[.int .u64 (Go.bits .xor .u64 t289 (IntKind.u64.wrap (x288000_1 + x288001_1))), .int .u64 17] ?_
    with_reducible refine (r05_left.calls (Go.bits .xor .u64 t289 (IntKind.u64.wrap (x288000_1 + x288001_1))) 17 t293 _ A10.out).mono ?_
    rintro e w33 ⟨rfl, hb⟩
    refine ⟨_, rfl, ?_⟩
    replace BK287 := am (blk_below (pk BK287.out) hb)
    replace BK288 := am (blk_below (pk BK288.out) hb)
    replace HB := am (below_step (pb HB) hb)
    (try clear hb)
    (try clear hb2)
    (try clear hk)
    (try clear hi)
    refine hK.out _ _ ⟨ce BK287 0, ce BK287 1, ce BK287 2, ce BK287 3⟩ (fun hHeld => ?_)
    clear hK K
    refine nm ?_
    refine pu 5 ?_
    refine pu 6 ?_
    refine last_ (i := 7) (N := none) #[true, true, true, true, true, true, true, true] rfl rfl (one_of HT_.out (by kernel_rfl)) (by decide) (fun K hK => ?_)
    have hs34 : w33.cell? ⟨gb287, 1, none⟩ = some (.int .u64 (Go.bits .xor .u64 t289 (IntKind.u64.wrap (x288000_1 + x288001_1)))) := ce BK287 1
    have hfs34 := blk_frozen BK287.out 1
    have hns34_1 := NB288_287.out
    have hms34_1 := NB287_288.out
    refine skip_ (w1 := ?_) (by rfl) rfl ?_ ?_
    rotate_left
    ·go_simp
     rfl
    refine hK.out _ _ ?_
    clear hK K
    refine done_ (done_of HT_.out (by kernel_rfl)) ?_
    have hcz35_0 : w33.cell? ⟨gb287, 0, none⟩ = some (.int .u64 (IntKind.u64.wrap (t290 + (Go.bits .xor .u64 t291 (IntKind.u64.wrap (x288002_1 + x288003_1)))))) := ce BK287 0
    have hcz35_1 : w33.cell? ⟨gb287, 1, none⟩ = some (.int .u64 (Go.bits .xor .u64 t289 (IntKind.u64.wrap (x288000_1 + x288001_1)))) := ce BK287 1
    have hcz35_2 : w33.cell? ⟨gb287, 2, none⟩ = some (.int .u64 (IntKind.u64.wrap ((IntKind.u64.wrap (x288002_1 + x288003_1)) + (Go.bits .xor .u64 t289 (IntKind.u64.wrap (x288000_1 + x288001_1)))))) := ce BK287 2
    have hcz35_3 : w33.cell? ⟨gb287, 3, none⟩ = some (.int .u64 (Go.bits .xor .u64 t292 (IntKind.u64.wrap (t290 + (Go.bits .xor .u64 t291 (IntKind.u64.wrap (x288002_1 + x288003_1))))))) := ce BK287 3
    have hfz35_0 := fz BK287 0
    have hfz35_1 := fz BK287 1
    have hfz35_2 := fz BK287 2
    have hfz35_3 := fz BK287 3
    try go_wp2_with (first | ((with_reducible refine gate_callee (f := 45) rfl ?_); refine gl (some 69) Try.func45 #[.int .u64 (IntKind.u64.wrap ((IntKind.u64.wrap (x288002_1 + x288003_1)) + (Go.bits .xor .u64 t289 (IntKind.u64.wrap (x288000_1 + x288001_1))))), .int .u64 32] ?_; (with_reducible refine (r05_left.calls (IntKind.u64.wrap ((IntKind.u64.wrap (x288002_1 + x288003_1)) + (Go.bits .xor .u64 t289 (IntKind.u64.wrap (x288000_1 + x288001_1))))) 32 t294 _ A11.out).mono ?_); rintro e w36 ⟨rfl, hb⟩; refine ⟨_, rfl, ?_⟩; replace BK287 := am (blk_below (g := gb287) (o := .cells #[.int .u64 (IntKind.u64.wrap (t290 + (Go.bits .xor .u64 t291 (IntKind.u64.wrap (x288002_1 + x288003_1))))), .int .u64 (Go.bits .xor .u64 t293 (IntKind.u64.wrap ((IntKind.u64.wrap (x288002_1 + x288003_1)) + (Go.bits .xor .u64 t289 (IntKind.u64.wrap (x288000_1 + x288001_1)))))), .int .u64 (IntKind.u64.wrap ((IntKind.u64.wrap (x288002_1 + x288003_1)) + (Go.bits .xor .u64 t289 (IntKind.u64.wrap (x288000_1 + x288001_1))))), .int .u64 (Go.bits .xor .u64 t292 (IntKind.u64.wrap (t290 + (Go.bits .xor .u64 t291 (IntKind.u64.wrap (x288002_1 + x288003_1))))))] 76 (0, 0)) (by refine pk ?_; refine blk_put (cs := #[.int .u64 (IntKind.u64.wrap (t290 + (Go.bits .xor .u64 t291 (IntKind.u64.wrap (x288002_1 + x288003_1))))), .int .u64 (Go.bits .xor .u64 t289 (IntKind.u64.wrap (x288000_1 + x288001_1))), .int .u64 (IntKind.u64.wrap ((IntKind.u64.wrap (x288002_1 + x288003_1)) + (Go.bits .xor .u64 t289 (IntKind.u64.wrap (x288000_1 + x288001_1))))), .int .u64 (Go.bits .xor .u64 t292 (IntKind.u64.wrap (t290 + (Go.bits .xor .u64 t291 (IntKind.u64.wrap (x288002_1 + x288003_1))))))]) ?_ 1 _ rfl; refine pk ?_; exact BK287.out) hb); replace BK288 := am (blk_below (g := gb288) (o := .cells #[.int .u64 0, .int .u64 0, .int .u64 0, .int .u64 0] 76 (0, 0)) (by refine pk ?_; refine blk_far ?_ NB288_287.out _; refine pk ?_; exact BK288.out) hb); replace HB := am (below_step (pb HB) hb); (try clear hb); (try clear hb2); (try clear hk); (try clear hi); have hcz37_0 : w36.cell? ⟨gb287, 0, none⟩ = some (.int .u64 (IntKind.u64.wrap (t290 + (Go.bits .xor .u64 t291 (IntKind.u64.wrap (x288002_1 + x288003_1)))))) := ce BK287 0; have hcz37_1 : w36.cell? ⟨gb287, 1, none⟩ = some (.int .u64 (Go.bits .xor .u64 t293 (IntKind.u64.wrap ((IntKind.u64.wrap (x288002_1 + x288003_1)) + (Go.bits .xor .u64 t289 (IntKind.u64.wrap (x288000_1 + x288001_1))))))) := ce BK287 1; have hcz37_2 : w36.cell? ⟨gb287, 2, none⟩ = some (.int .u64 (IntKind.u64.wrap ((IntKind.u64.wrap (x288002_1 + x288003_1)) + (Go.bits .xor .u64 t289 (IntKind.u64.wrap (x288000_1 + x288001_1)))))) := ce BK287 2; have hcz37_3 : w36.cell? ⟨gb287, 3, none⟩ = some (.int .u64 (Go.bits .xor .u64 t292 (IntKind.u64.wrap (t290 + (Go.bits .xor .u64 t291 (IntKind.u64.wrap (x288002_1 + x288003_1))))))) := ce BK287 3; have hfz37_0 := fz BK287 0; have hfz37_1 := fz BK287 1; have hfz37_2 := fz BK287 2; have hfz37_3 := fz BK287 3))
    go_roundg k1
    case measure => have := HK1.out; omega
    case rel => exact ⟨(wrap64 (x5_1 + 1)), (IntKind.u64.wrap (t290 + (Go.bits .xor .u64 t291 (IntKind.u64.wrap (x288002_1 + x288003_1))))), (Go.bits .xor .u64 t293 (IntKind.u64.wrap ((IntKind.u64.wrap (x288002_1 + x288003_1)) + (Go.bits .xor .u64 t289 (IntKind.u64.wrap (x288000_1 + x288001_1)))))), (t294), (Go.bits .xor .u64 t292 (IntKind.u64.wrap (t290 + (Go.bits .xor .u64 t291 (IntKind.u64.wrap (x288002_1 + x288003_1)))))), (by first | rfl | (simp; done) | (simp [*]; done)), H', ⟨by have := HK1.out; omega⟩, ⟨by refine pk ?_; refine blk_put (cs := #[.int .u64 (IntKind.u64.wrap (t290 + (Go.bits .xor .u64 t291 (IntKind.u64.wrap (x288002_1 + x288003_1))))), .int .u64 (Go.bits .xor .u64 t293 (IntKind.u64.wrap ((IntKind.u64.wrap (x288002_1 + x288003_1)) + (Go.bits .xor .u64 t289 (IntKind.u64.wrap (x288000_1 + x288001_1)))))), .int .u64 (IntKind.u64.wrap ((IntKind.u64.wrap (x288002_1 + x288003_1)) + (Go.bits .xor .u64 t289 (IntKind.u64.wrap (x288000_1 + x288001_1))))), .int .u64 (Go.bits .xor .u64 t292 (IntKind.u64.wrap (t290 + (Go.bits .xor .u64 t291 (IntKind.u64.wrap (x288002_1 + x288003_1))))))]) ?_ 2 _ rfl; refine pk ?_; exact BK287.out⟩, ⟨by refine pk ?_; refine blk_far ?_ NB288_287.out _; refine pk ?_; exact BK288.out⟩, ⟨pb HB⟩⟩
   ·rw [if_neg c5] at H
    have c5b0 : decide (x5_1 < a1) = false := decide_eq_false c5
    clear c5
    simp only [Option.some.injEq, Prod.mk.injEq] at H
    obtain ⟨rfl, rfl, rfl, rfl⟩ := H
    have hnb38 := NB287_288.out
    have hnc38 := NB288_287.out
    have hcz39_0 := ce BK287 0
    have hcz39_1 := ce BK287 1
    have hcz39_2 := ce BK287 2
    have hcz39_3 := ce BK287 3
    have hfz39_0 := fz BK287 0
    have hfz39_1 := fz BK287 1
    have hfz39_2 := fz BK287 2
    have hfz39_3 := fz BK287 3
    have hcz40_0 := ce BK288 0
    have hcz40_1 := ce BK288 1
    have hcz40_2 := ce BK288 2
    have hcz40_3 := ce BK288 3
    have hfz40_0 := fz BK288 0
    have hfz40_1 := fz BK288 1
    have hfz40_2 := fz BK288 2
    have hfz40_3 := fz BK288 3
    go_wp2
    refine bodyPost_ret (results_cell_row rfl _ _ gb288 76 #[.int .u64 x288000_1, .int .u64 x288001_1, .int .u64 x288002_1, .int .u64 x288003_1] (0, 0) _ rfl (by refine pk ?_; refine blk_put (cs := #[.int .u64 x288000_1, .int .u64 x288001_1, .int .u64 x288002_1, .int .u64 0]) ?_ 3 _ rfl; refine pk ?_; refine blk_put (cs := #[.int .u64 x288000_1, .int .u64 x288001_1, .int .u64 0, .int .u64 0]) ?_ 2 _ rfl; refine pk ?_; refine blk_put (cs := #[.int .u64 x288000_1, .int .u64 0, .int .u64 0, .int .u64 0]) ?_ 1 _ rfl; refine pk ?_; refine blk_put (cs := #[.int .u64 0, .int .u64 0, .int .u64 0, .int .u64 0]) ?_ 0 _ rfl; refine pk ?_; exact BK288.out) Try.underlying76 rfl (by kernel_rfl)) rfl ?_
    exact ⟨by first | rfl | (simp [errW_none, errW_some] <;> rfl) | (simp [*, errW_none, errW_some] <;> rfl), pb HB⟩
end Go.Proofs.Ytojpmjkphgjmgaa.H
