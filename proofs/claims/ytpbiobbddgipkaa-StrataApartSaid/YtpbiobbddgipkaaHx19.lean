import Derived.Test.YtpbiobbddgipkaaHx0
import Derived.Test.YtpbiobbddgipkaaHx3
namespace Go.Proofs.Ytpbiobbddgipkaa.H
open Go.RowKit Go.Proofs.YtpbiobbddgipkaaW.PrintWords Go.Proofs.YtpbiobbddgipkaaW.PrintLast Go.Proofs.YtpbiobbddgipkaaW.PrintMore Go.Proofs.YtpbiobbddgipkaaW.Sq
attribute [local go_sem] max2_int min2_int max_two min_two max_three min_three max_four min_four
set_option linter.unusedVariables false
set_option linter.unusedSimpArgs false

attribute [local go_sem high] eqA68
def bottom_New.f (a0_0 : Int) (a0_1 : Int) (a1 : Int) : Option (Int × Int × Int × (List (S87)) × Int) := if a1 < 1 then (some (0, 0, 0, ([] : List (S87)), 1)) else (if a1 > 1024 then (some (0, 0, 0, ([] : List (S87)), 1)) else (some (a0_0, a0_1, a1, ([] : List (S87)), 0)))
set_option maxHeartbeats 8000000 in
set_option maxRecDepth 100000 in
theorem bottom_New.calls (a0_0 : Int) (a0_1 : Int) (a1 : Int) (r1 : Int) (r2 : Int) (r3 : Int) (r4 : List (S87)) (r5 : Int) (w : World) (h : bottom_New.f a0_0 a0_1 a1 = some (r1, r2, r3, r4, r5)) :
  Calls Try.prog 12 #[.agg #[.int .u64 a0_0, .int .u64 a0_1], .int .i64 a1] w fun e w' => ∃ v3_ : Value, e = .returned (.tuple #[.agg #[.int .u64 r1, .int .u64 r2, .int .i64 r3, v3_], .int .i64 r5]) ∧ Kd.V k87 87 w' w.heap.size (fun k_ => (w.heap.size ≤ k_)) v3_ r4 ∧ Below w.heap.size w w' := by
 have hu24 := Try.underlying24
 have hu40 := Try.underlying40
 have HB := am (Below.refl w.heap.size w)
 have H : (if a1 < 1 then (some (0, 0, 0, ([] : List (S87)), 1)) else (if a1 > 1024 then (some (0, 0, 0, ([] : List (S87)), 1)) else (some (a0_0, a0_1, a1, ([] : List (S87)), 0)))) = some (r1, r2, r3, r4, r5) := h
 clear h
 by_cases c3 : a1 < 1
 ·rw [if_pos c3] at H
  have c3b0 : decide (a1 < 1) = true := decide_eq_true c3
  clear c3
  simp only [Option.some.injEq, Prod.mk.injEq] at H
  obtain ⟨rfl, rfl, rfl, rfl, rfl⟩ := H
  go_enter Try.func12, Try.ntmps12
  go_wp2_with (first | ((with_reducible refine gate_dst (N := 2) rfl ?_); refine be 2 #[.int .u64 a0_0, .int .u64 a0_1] 24 ?_; intro gb371 hg w4 hbox hb; have BK371 := am (hbox); have GW371 := am ((pg hg HB : w.heap.size ≤ gb371)); have GE371 := am ((pg hg HB : w.heap.size ≤ gb371)); replace HB := am (below_step (pb HB) hb); clear hb hbox hg) | ((with_reducible refine gate_dst (N := 4) rfl ?_); refine be 4 #[.int .u64 0, .int .u64 0, .int .i64 0, .slice none 0 0] 40 ?_; intro gb372 hg w5 hbox hb; have BK372 := am (hbox); have GW372 := am ((pg hg HB : w.heap.size ≤ gb372)); have GE372 := am ((pg hg HB : w.heap.size ≤ gb372)); replace HB := am (below_step (pb HB) hb); obtain ⟨NB371_372, NB372_371, hnc6, hnb6⟩ := pm hg BK371; replace BK371 := am (blk_below (pk BK371.out) hb); clear hb hbox hg; obtain ⟨hcz7_0, hcz7_1, hcz7_2, hcz7_3, hfz7_0, hfz7_1, hfz7_2, hfz7_3⟩ := g4 BK372))
  refine bodyPost_ret (results_ct rfl _ _ gb372 40 #[.int .u64 0, .int .u64 0, .int .i64 0, .slice none 0 0] (0, 0) _ rfl (by refine pk ?_; refine blk_put (cs := #[.int .u64 0, .int .u64 0, .int .i64 0, .slice none 0 0]) ?_ 3 _ rfl; refine pk ?_; refine blk_put (cs := #[.int .u64 0, .int .u64 0, .int .i64 0, .slice none 0 0]) ?_ 2 _ rfl; refine pk ?_; refine blk_put (cs := #[.int .u64 0, .int .u64 0, .int .i64 0, .slice none 0 0]) ?_ 1 _ rfl; refine pk ?_; refine blk_put (cs := #[.int .u64 0, .int .u64 0, .int .i64 0, .slice none 0 0]) ?_ 0 _ rfl; refine pk ?_; exact BK372.out) Try.underlying40 rfl (by kernel_rfl)) rfl ?_
  exact ⟨_, by first | rfl | (simp [errW_none, errW_some] <;> rfl) | (simp [*, errW_none, errW_some] <;> rfl), Kd.V_nil _ _ _ _ _, pb HB⟩
 rw [if_neg c3] at H
 have c3b0 : decide (a1 < 1) = false := decide_eq_false c3
 clear c3
 by_cases c8 : a1 > 1024
 ·rw [if_pos c8] at H
  have c8b0 : decide (1024 < a1) = true := decide_eq_true c8
  clear c8
  simp only [Option.some.injEq, Prod.mk.injEq] at H
  obtain ⟨rfl, rfl, rfl, rfl, rfl⟩ := H
  go_enter Try.func12, Try.ntmps12
  go_wp2_with (first | ((with_reducible refine gate_dst (N := 2) rfl ?_); refine be 2 #[.int .u64 a0_0, .int .u64 a0_1] 24 ?_; intro gb371 hg w9 hbox hb; have BK371 := am (hbox); have GW371 := am ((pg hg HB : w.heap.size ≤ gb371)); have GE371 := am ((pg hg HB : w.heap.size ≤ gb371)); replace HB := am (below_step (pb HB) hb); clear hb hbox hg) | ((with_reducible refine gate_dst (N := 4) rfl ?_); refine be 4 #[.int .u64 0, .int .u64 0, .int .i64 0, .slice none 0 0] 40 ?_; intro gb372 hg w10 hbox hb; have BK372 := am (hbox); have GW372 := am ((pg hg HB : w.heap.size ≤ gb372)); have GE372 := am ((pg hg HB : w.heap.size ≤ gb372)); replace HB := am (below_step (pb HB) hb); obtain ⟨NB371_372, NB372_371, hnc11, hnb11⟩ := pm hg BK371; replace BK371 := am (blk_below (pk BK371.out) hb); clear hb hbox hg; obtain ⟨hcz12_0, hcz12_1, hcz12_2, hcz12_3, hfz12_0, hfz12_1, hfz12_2, hfz12_3⟩ := g4 BK372))
  refine bodyPost_ret (results_ct rfl _ _ gb372 40 #[.int .u64 0, .int .u64 0, .int .i64 0, .slice none 0 0] (0, 0) _ rfl (by refine pk ?_; refine blk_put (cs := #[.int .u64 0, .int .u64 0, .int .i64 0, .slice none 0 0]) ?_ 3 _ rfl; refine pk ?_; refine blk_put (cs := #[.int .u64 0, .int .u64 0, .int .i64 0, .slice none 0 0]) ?_ 2 _ rfl; refine pk ?_; refine blk_put (cs := #[.int .u64 0, .int .u64 0, .int .i64 0, .slice none 0 0]) ?_ 1 _ rfl; refine pk ?_; refine blk_put (cs := #[.int .u64 0, .int .u64 0, .int .i64 0, .slice none 0 0]) ?_ 0 _ rfl; refine pk ?_; exact BK372.out) Try.underlying40 rfl (by kernel_rfl)) rfl ?_
  exact ⟨_, by first | rfl | (simp [errW_none, errW_some] <;> rfl) | (simp [*, errW_none, errW_some] <;> rfl), Kd.V_nil _ _ _ _ _, pb HB⟩
 rw [if_neg c8] at H
 have c8b0 : decide (1024 < a1) = false := decide_eq_false c8
 clear c8
 simp only [Option.some.injEq, Prod.mk.injEq] at H
 obtain ⟨rfl, rfl, rfl, rfl, rfl⟩ := H
 go_enter Try.func12, Try.ntmps12
 go_wp2_with (first | ((with_reducible refine gate_dst (N := 2) rfl ?_); refine be 2 #[.int .u64 a0_0, .int .u64 a0_1] 24 ?_; intro gb371 hg w13 hbox hb; have BK371 := am (hbox); have GW371 := am ((pg hg HB : w.heap.size ≤ gb371)); have GE371 := am ((pg hg HB : w.heap.size ≤ gb371)); replace HB := am (below_step (pb HB) hb); clear hb hbox hg) | ((with_reducible refine gate_dst (N := 4) rfl ?_); refine be 4 #[.int .u64 0, .int .u64 0, .int .i64 0, .slice none 0 0] 40 ?_; intro gb372 hg w14 hbox hb; have BK372 := am (hbox); have GW372 := am ((pg hg HB : w.heap.size ≤ gb372)); have GE372 := am ((pg hg HB : w.heap.size ≤ gb372)); replace HB := am (below_step (pb HB) hb); obtain ⟨NB371_372, NB372_371, hnb15, hnc15⟩ := pm hg BK371; replace BK371 := am (blk_below (pk BK371.out) hb); clear hb hbox hg; obtain ⟨hcz16_0, hcz16_1, hfz16_0, hfz16_1⟩ := g2 BK371; obtain ⟨hcz17_0, hcz17_1, hcz17_2, hcz17_3, hfz17_0, hfz17_1, hfz17_2, hfz17_3⟩ := g4 BK372))
 refine bodyPost_ret (results_ct rfl _ _ gb372 40 #[.int .u64 a0_0, .int .u64 a0_1, .int .i64 a1, .slice none 0 0] (0, 0) _ rfl (by refine pk ?_; refine blk_put (cs := #[.int .u64 a0_0, .int .u64 a0_1, .int .i64 a1, .slice none 0 0]) ?_ 3 _ rfl; refine pk ?_; refine blk_put (cs := #[.int .u64 a0_0, .int .u64 a0_1, .int .i64 0, .slice none 0 0]) ?_ 2 _ rfl; refine pk ?_; refine blk_put (cs := #[.int .u64 a0_0, .int .u64 0, .int .i64 0, .slice none 0 0]) ?_ 1 _ rfl; refine pk ?_; refine blk_put (cs := #[.int .u64 0, .int .u64 0, .int .i64 0, .slice none 0 0]) ?_ 0 _ rfl; refine pk ?_; exact BK372.out) Try.underlying40 rfl (by kernel_rfl)) rfl ?_
 exact ⟨_, by first | rfl | (simp [errW_none, errW_some] <;> rfl) | (simp [*, errW_none, errW_some] <;> rfl), Kd.V_nil _ _ _ _ _, pb HB⟩
def samphireref14_Same.l0 : Nat → List (S68) → List (S68) → Int → Option (Bool)
 | 0, _, _, _ => none
 | k + 1, x0, x1, x5 => if x5 < (x0.length : Int) then (if 0 ≤ x5 then (if x5 < (x1.length : Int) then (if (!((((rd_T68 x0 x5).f0).toList) == (((rd_T68 x1 x5).f0).toList)) || (!(((rd_T68 x0 x5).f1) == ((rd_T68 x1 x5).f1)) || ((!(((rd_T68 x0 x5).f2.f0) == ((rd_T68 x1 x5).f2.f0)) || (!(((rd_T68 x0 x5).f2.f1) == ((rd_T68 x1 x5).f2.f1))))))) = true then (some false) else (samphireref14_Same.l0 k x0 x1 (wrap64 (x5 + 1)))) else (none)) else (none)) else (some true)
def samphireref14_Same.f (k : Nat) (l0 : List (S68)) (l1 : List (S68)) : Option (Bool) := if (l0.length : Int) = (l1.length : Int) then (samphireref14_Same.l0 k l0 l1 0) else (some false)
theorem samphireref14_Same.mono_l : ∀ k, (∀ y0 y1 y2, LeO (samphireref14_Same.l0 k y0 y1 y2) (samphireref14_Same.l0 (k + 1) y0 y1 y2))
 | 0 => fun _ _ _ r h => by simp [samphireref14_Same.l0] at h
 | k + 1 => by
  have ih0 := samphireref14_Same.mono_l k
  ·intro y0 y1 y2
   unfold samphireref14_Same.l0
   repeat' first
   | (with_reducible exact ih0 _ _ _)
   | (with_reducible exact LeO.refl _)
   | (with_reducible exact LeO.none _)
   | (with_reducible refine LeO.ite ?_ ?_)
   | (with_reducible refine LeO.bind ?_ (fun _ => ?_))
theorem samphireref14_Same.mono : ∀ a0 a1 k, LeO (samphireref14_Same.f k a0 a1) (samphireref14_Same.f (k + 1) a0 a1) := by
 intro a0 a1 k
 have ih0 := samphireref14_Same.mono_l k
 unfold samphireref14_Same.f
 repeat' first
   | (with_reducible exact ih0 _ _ _)
   | (with_reducible exact LeO.refl _)
   | (with_reducible exact LeO.none _)
   | (with_reducible refine LeO.ite ?_ ?_)
   | (with_reducible refine LeO.bind ?_ (fun _ => ?_))
set_option maxHeartbeats 8000000 in
set_option maxRecDepth 100000 in
theorem samphireref14_Same.calls (k : Nat) (A0 : Option Addr) (c0 : Nat) (l0 : List (S68)) (A1 : Option Addr) (c1 : Nat) (l1 : List (S68)) (r : Bool) (w : World) (hr0 : Kd.C k68 w A0 l0.length l0) (hc0 : l0.length ≤ c0) (hr1 : Kd.C k68 w A1 l1.length l1) (hc1 : l1.length ≤ c1) (h : samphireref14_Same.f k l0 l1 = some r) :
  Calls Try.prog 15 #[.slice A0 l0.length c0, .slice A1 l1.length c1] w fun e w' => e = .returned (.bool r) ∧ Drawn0 w w' := by
 have hu68 := Try.underlying68
 have HR0 := am hr0
 have HC0 := am hc0
 clear hr0 hc0
 have HR1 := am hr1
 have HC1 := am hc1
 clear hr1 hc1
 have H : (if (l0.length : Int) = (l1.length : Int) then (samphireref14_Same.l0 k l0 l1 0) else (some false)) = some r := h
 clear h
 by_cases c3 : (l0.length : Int) = (l1.length : Int)
 rotate_left
 ·rw [if_neg c3] at H
  have c3b0 : ((l0.length : Int) == (l1.length : Int)) = false := beq_eq_false_iff_ne.mpr c3
  have c3b1 : ((l0.length : Int) != (l1.length : Int)) = true := bne_iff_ne.mpr c3
  have c3b2 : (l0.length == l1.length) = false := by first | simpa using c3 | (simp at c3 ⊢; omega)
  obtain rfl := Option.some.inj H
  go_enter Try.func15, Try.ntmps15
  go_wp2
  repeat (go_quiet (fail); try go_wp2)
  go_ret
  exact ⟨by first | rfl | (simp; done) | (simp [*]; done), by repeat (first | exact Drawn0.refl _ | apply Drawn0.step)⟩
 rw [if_pos c3] at H
 have c3b0 : ((l0.length : Int) == (l1.length : Int)) = true := beq_iff_eq.mpr c3
 have c3b1 : ((l0.length : Int) != (l1.length : Int)) = false := bne_eq_false_iff_eq.mpr c3
 have c3b2 : (l0.length == l1.length) = true := by first | simpa using c3 | (simp at c3 ⊢; omega)
 clear c3
 have H' := am H
 clear H
 go_enter Try.func15, Try.ntmps15
 go_wp2
 repeat (go_quiet (fail); try go_wp2)
 go_loopg [5] k (fun kq v5 w' => ∃ (x5_1 : Int), v5 = .int .i64 x5_1 ∧ Aside0 (samphireref14_Same.l0 kq l0 l1 x5_1 = some r) ∧ Aside0 (kq ≤ k) ∧ Drawn0 w w')
 case atStart => exact ⟨(0), (by first | rfl | (simp; done) | (simp [*]; done)), H', ⟨Nat.le_refl _⟩, by repeat (first | exact Drawn0.refl _ | apply Drawn0.step)⟩
 case round =>
  clear H'
  try clear c1
  try clear p2
  try clear c3
  try clear c3b0
  try clear c3b1
  try clear c3b2
  obtain ⟨x5_1, rfl, HA, HK1, ⟨m1, rfl⟩⟩ := hrel
  cases gk with
  | zero => exact absurd HA.out (by simp [samphireref14_Same.l0])
  | succ k1 =>
   have H := HA.out
   clear HA
   simp only [samphireref14_Same.l0] at H
   by_cases c4 : x5_1 < (l0.length : Int)
   ·rw [if_pos c4] at H
    have c4b0 : decide (x5_1 < (l0.length : Int)) = true := decide_eq_true c4
    clear c4
    by_cases c5 : 0 ≤ x5_1
    ·rw [if_pos c5] at H
     have c5b0 : decide (0 ≤ x5_1) = true := decide_eq_true c5
     clear c5
     by_cases c6 : x5_1 < (l1.length : Int)
     ·rw [if_pos c6] at H
      have c6b0 : decide (x5_1 < (l1.length : Int)) = true := decide_eq_true c6
      clear c6
      by_cases c7 : (!((((rd_T68 l0 x5_1).f0).toList) == (((rd_T68 l1 x5_1).f0).toList)) || (!(((rd_T68 l0 x5_1).f1) == ((rd_T68 l1 x5_1).f1)) || ((!(((rd_T68 l0 x5_1).f2.f0) == ((rd_T68 l1 x5_1).f2.f0)) || (!(((rd_T68 l0 x5_1).f2.f1) == ((rd_T68 l1 x5_1).f2.f1))))))) = true
      ·rw [if_pos c7] at H
       have c7b0 : (!((((rd_T68 l0 x5_1).f0).toList) == (((rd_T68 l1 x5_1).f0).toList)) || (!(((rd_T68 l0 x5_1).f1) == ((rd_T68 l1 x5_1).f1)) || ((!(((rd_T68 l0 x5_1).f2.f0) == ((rd_T68 l1 x5_1).f2.f0)) || (!(((rd_T68 l0 x5_1).f2.f1) == ((rd_T68 l1 x5_1).f2.f1))))))) = true := c7
       clear c7
       obtain rfl := Option.some.inj H
       have p373 : 0 ≤ (x5_1 : Int) := of_decide_eq_true (by first | (with_reducible assumption) | assumption)
       have q373 : x5_1 < (l0.length : Int) := of_decide_eq_true (by first | (with_reducible assumption) | assumption)
       obtain ⟨ad373, e373, hx373_0, hx373_1, hx373_2, hx373_3⟩ := at_T68 HR0.out x5_1 p373 q373
       cases e373
       replace p373 := eq_true p373
       replace q373 := eq_true q373
       have p374 : 0 ≤ (x5_1 : Int) := of_decide_eq_true (by first | (with_reducible assumption) | assumption)
       have q374 : x5_1 < (l1.length : Int) := of_decide_eq_true (by first | (with_reducible assumption) | assumption)
       obtain ⟨ad374, e374, hx374_0, hx374_1, hx374_2, hx374_3⟩ := at_T68 HR1.out x5_1 p374 q374
       cases e374
       replace p374 := eq_true p374
       replace q374 := eq_true q374
       go_wp2
       repeat (go_quiet (fail); try go_wp2)
       go_ret
       exact ⟨by first | rfl | (simp; done) | (simp [*]; done), by repeat (first | exact Drawn0.refl _ | apply Drawn0.step)⟩
      ·rw [if_neg c7] at H
       have c7b0 : (!((((rd_T68 l0 x5_1).f0).toList) == (((rd_T68 l1 x5_1).f0).toList)) || (!(((rd_T68 l0 x5_1).f1) == ((rd_T68 l1 x5_1).f1)) || ((!(((rd_T68 l0 x5_1).f2.f0) == ((rd_T68 l1 x5_1).f2.f0)) || (!(((rd_T68 l0 x5_1).f2.f1) == ((rd_T68 l1 x5_1).f2.f1))))))) = false := by simpa using c7
       clear c7
       have H' := am H
       clear H
       have p373 : 0 ≤ (x5_1 : Int) := of_decide_eq_true (by first | (with_reducible assumption) | assumption)
       have q373 : x5_1 < (l0.length : Int) := of_decide_eq_true (by first | (with_reducible assumption) | assumption)
       obtain ⟨ad373, e373, hx373_0, hx373_1, hx373_2, hx373_3⟩ := at_T68 HR0.out x5_1 p373 q373
       cases e373
       replace p373 := eq_true p373
       replace q373 := eq_true q373
       have p374 : 0 ≤ (x5_1 : Int) := of_decide_eq_true (by first | (with_reducible assumption) | assumption)
       have q374 : x5_1 < (l1.length : Int) := of_decide_eq_true (by first | (with_reducible assumption) | assumption)
       obtain ⟨ad374, e374, hx374_0, hx374_1, hx374_2, hx374_3⟩ := at_T68 HR1.out x5_1 p374 q374
       cases e374
       replace p374 := eq_true p374
       replace q374 := eq_true q374
       go_wp2
       repeat (go_quiet (fail); try go_wp2)
       go_roundg k1
       case measure => have := HK1.out; omega
       case rel => exact ⟨(wrap64 (x5_1 + 1)), (by first | rfl | (simp; done) | (simp [*]; done)), H', ⟨by have := HK1.out; omega⟩, by repeat (first | exact Drawn0.refl _ | apply Drawn0.step)⟩
     ·rw [if_neg c6] at H
      exact absurd H (by simp)
    ·rw [if_neg c5] at H
     exact absurd H (by simp)
   ·rw [if_neg c4] at H
    have c4b0 : decide (x5_1 < (l0.length : Int)) = false := decide_eq_false c4
    clear c4
    obtain rfl := Option.some.inj H
    go_wp2
    repeat (go_quiet (fail); try go_wp2)
    go_ret
    exact ⟨by first | rfl | (simp; done) | (simp [*]; done), by repeat (first | exact Drawn0.refl _ | apply Drawn0.step)⟩
def samphirelaw14_Refs.l0 : Nat → List (S68) → List (S87) → Int → Int → Option ((List (S68)))
 | 0, _, _, _, _ => none
 | k + 1, x3, x6, x7, x8 => if x8 < x7 then (if 0 ≤ x8 then (if x8 < (x6.length : Int) then (if x3.length < 3518437208883 then (samphirelaw14_Refs.l0 k (x3 ++ [(⟨(rd_T87 x6 x8).f0, (rd_T87 x6 x8).f1, (⟨(rd_T87 x6 x8).f2.f0, (rd_T87 x6 x8).f2.f1⟩ : S65)⟩ : S68)]) x6 x7 (wrap64 (x8 + 1))) else (none)) else (none)) else (none)) else (some x3)
def samphirelaw14_Refs.f (k : Nat) (l0 : List (S87)) : Option ((List (S68))) := samphirelaw14_Refs.l0 k ([] : List (S68)) l0 (l0.length : Int) 0
theorem samphirelaw14_Refs.mono_l : ∀ k, (∀ y0 y1 y2 y3, LeO (samphirelaw14_Refs.l0 k y0 y1 y2 y3) (samphirelaw14_Refs.l0 (k + 1) y0 y1 y2 y3))
 | 0 => fun _ _ _ _ r h => by simp [samphirelaw14_Refs.l0] at h
 | k + 1 => by
  have ih0 := samphirelaw14_Refs.mono_l k
  ·intro y0 y1 y2 y3
   unfold samphirelaw14_Refs.l0
   repeat' first
   | (with_reducible exact ih0 _ _ _ _)
   | (with_reducible exact LeO.refl _)
   | (with_reducible exact LeO.none _)
   | (with_reducible refine LeO.ite ?_ ?_)
   | (with_reducible refine LeO.bind ?_ (fun _ => ?_))
theorem samphirelaw14_Refs.mono : ∀ a0 k, LeO (samphirelaw14_Refs.f k a0) (samphirelaw14_Refs.f (k + 1) a0) := by
 intro a0 k
 have ih0 := samphirelaw14_Refs.mono_l k
 unfold samphirelaw14_Refs.f
 repeat' first
   | (with_reducible exact ih0 _ _ _ _)
   | (with_reducible exact LeO.refl _)
   | (with_reducible exact LeO.none _)
   | (with_reducible refine LeO.ite ?_ ?_)
   | (with_reducible refine LeO.bind ?_ (fun _ => ?_))
set_option maxHeartbeats 8000000 in
set_option maxRecDepth 100000 in
theorem samphirelaw14_Refs.calls (k : Nat) (A0 : Option Addr) (c0 : Nat) (l0 : List (S87)) (r : List (S68)) (w : World) (hr0 : Kd.C k87 w A0 l0.length l0) (hc0 : l0.length ≤ c0) (h : samphirelaw14_Refs.f k l0 = some r) :
  Calls Try.prog 16 #[.slice A0 l0.length c0] w fun e w' => ∃ v0_ : Value, e = .returned (v0_) ∧ Kd.R k68 68 w' w.heap.size (fun _ => True) v0_ r ∧ Below w.heap.size w w' := by
 have hu87 := Try.underlying87
 have HR0 := am hr0
 have HC0 := am hc0
 clear hr0 hc0
 have HB := am (Below.refl w.heap.size w)
 have H : (samphirelaw14_Refs.l0 k ([] : List (S68)) l0 (l0.length : Int) 0) = some r := h
 clear h
 have H' := am H
 clear H
 go_enter Try.func16, Try.ntmps16
 go_wp2
 go_loopg [3, 8] k (fun kq v3 v8 w' => ∃ (x3_1 : List (S68)) (x8_1 : Int), v8 = .int .i64 x8_1 ∧ Aside0 (samphirelaw14_Refs.l0 kq x3_1 l0 (l0.length : Int) x8_1 = some r) ∧ Aside0 (kq ≤ k) ∧ Aside0 (Kd.R k68 68 w' w.heap.size (fun _ => True) v3 x3_1) ∧ Aside0 (Below w.heap.size w w'))
 case atStart => exact ⟨(([] : List (S68))), (0), (by first | rfl | (simp; done) | (simp [*]; done)), H', ⟨Nat.le_refl _⟩, ⟨by first | exact Kd.R_nil _ _ _ _ _ | exact Kd.N_nil _ _ _ _ _ | exact Kd.V_nil _ _ _ _ _ | exact Kd.Q_nil _ _ _ _ _ | exact Kd.S_nil _ _ _ _ _⟩, ⟨pb HB⟩⟩
 case round =>
  clear H'
  try clear c1
  obtain ⟨x3_1, x8_1, rfl, HA, HK1, HO_3, HB⟩ := hrel
  cases gk with
  | zero => exact absurd HA.out (by simp [samphirelaw14_Refs.l0])
  | succ k1 =>
   have H := HA.out
   clear HA
   simp only [samphirelaw14_Refs.l0] at H
   by_cases c2 : x8_1 < (l0.length : Int)
   ·rw [if_pos c2] at H
    have c2b0 : decide (x8_1 < (l0.length : Int)) = true := decide_eq_true c2
    clear c2
    by_cases c3 : 0 ≤ x8_1
    ·rw [if_pos c3] at H
     have c3b0 : decide (0 ≤ x8_1) = true := decide_eq_true c3
     clear c3
     by_cases c4 : x8_1 < (l0.length : Int)
     ·rw [if_pos c4] at H
      have c4b0 : decide (x8_1 < (l0.length : Int)) = true := decide_eq_true c4
      clear c4
      by_cases c5 : x3_1.length < 3518437208883
      ·rw [if_pos c5] at H
       have LMc5 := am c5
       clear c5
       obtain ⟨y377, hy377⟩ : ∃ y_ : List (S68), y_ = (x3_1 ++ [(⟨(rd_T87 l0 x8_1).f0, (rd_T87 l0 x8_1).f1, (⟨(rd_T87 l0 x8_1).f2.f0, (rd_T87 l0 x8_1).f2.f1⟩ : S65)⟩ : S68)]) := ⟨_, rfl⟩
       replace H : (samphirelaw14_Refs.l0 k1 y377 l0 (l0.length : Int) (wrap64 (x8_1 + 1))) = some r := by first | (rw [hy377]; with_reducible exact H) | (have H2_ := (Option.bind_some _ _).symm.trans H; rw [hy377]; with_reducible exact H2_) | (have H2_ := (Option.bind_some _ _).symm.trans H; with_reducible exact H2_) | with_reducible exact H | (rw [hy377]; exact H) | exact H
       have Ny377 := am hy377
       clear hy377
       have H' := am H
       clear H
       have p375 : 0 ≤ (x8_1 : Int) := of_decide_eq_true (by first | (with_reducible assumption) | assumption)
       have q375 : x8_1 < (l0.length : Int) := of_decide_eq_true (by first | (with_reducible assumption) | assumption)
       obtain ⟨ad375, e375, hx375_0, hx375_1, hx375_2, hx375_3⟩ := at_T87 HR0.out x8_1 p375 q375
       cases e375
       replace hx375_0 := (HB.out.cell (World.block_lt_of_cell? w _ hx375_0)).trans hx375_0
       replace hx375_1 := (HB.out.cell (World.block_lt_of_cell? w _ hx375_1)).trans hx375_1
       replace hx375_2 := (HB.out.cell (World.block_lt_of_cell? w _ hx375_2)).trans hx375_2
       replace hx375_3 := (HB.out.cell (World.block_lt_of_cell? w _ hx375_3)).trans hx375_3
       replace p375 := eq_true p375
       replace q375 := eq_true q375
       go_wp2_with (first | ((with_reducible refine gate_dst (N := 5) rfl ?_); refine be 5 #[.string (⟨#[]⟩ : ByteArray), .int .u64 0, .int .u64 0, .int .u64 0] 87 ?_; intro gb376 hg w6 hbox hb; replace HO_3 := am (Kd.R_below (pr HO_3.out) hb); have BK376 := am (hbox); have GW376 := am ((pg hg HB : w.heap.size ≤ gb376)); have GE376 := am ((pg hg HB : w.heap.size ≤ gb376)); replace HB := am (below_step (pb HB) hb); clear hb hbox hg; obtain ⟨hcz7_0, hcz7_1, hcz7_2, hcz7_3, hfz7_0, hfz7_1, hfz7_2, hfz7_3⟩ := g4 BK376) | ((with_reducible refine gate_builtin (b := .append) (xs := #[.tmp 12, .tmp 14]) rfl ?_); at_builtin; refine Kd.R_append k68 (w0 := w) w.heap.size rfl (.tmp 12) (.tmp 14) 49 68 (.agg #[(.string ⟨#[]⟩), (.int .u64 0), (.int .u64 0), (.int .u64 0)]) 40 rfl Try.underlying49 info68 rfl (by decide) (by omega) u3 x3_1 (⟨(rd_T87 l0 x8_1).f0, (rd_T87 l0 x8_1).f1, (⟨(rd_T87 l0 x8_1).f2.f0, (rd_T87 l0 x8_1).f2.f1⟩ : S65)⟩ : S68) [.string ((rd_T87 l0 x8_1).f0), .int .u64 ((rd_T87 l0 x8_1).f1), .int .u64 ((rd_T87 l0 x8_1).f2.f0), .int .u64 ((rd_T87 l0 x8_1).f2.f1)] (fun _ => True) (fun _ => False) rfl (by first | (go_simp; done) | (go_simp; rfl)) ?aP (fun _ hk => hk.elim) ?aF ?aO ?aB ?aS ?aL ?_; (case aP => exact k68_mkM _ _ _ (⟨(rd_T87 l0 x8_1).f0, (rd_T87 l0 x8_1).f1, (⟨(rd_T87 l0 x8_1).f2.f0, (rd_T87 l0 x8_1).f2.f1⟩ : S65)⟩ : S68)); (case aB => exact (pb HB)); (case aF => exact (fun _ _ => trivial)); (case aO => exact (pr (Kd.R_mono (Kd.R_far (p := ⟨gb376, 3, none⟩) (Kd.R_far (p := ⟨gb376, 2, none⟩) (Kd.R_far (p := ⟨gb376, 1, none⟩) (Kd.R_far (p := ⟨gb376, 0, none⟩) (Kd.R_types HO_3.out BK376.out (by decide)) (fun _ hk => hk.2) (.string ((rd_T87 l0 x8_1).f0))) (fun _ hk => hk.2) (.int .u64 ((rd_T87 l0 x8_1).f1))) (fun _ hk => hk.2) (.int .u64 ((rd_T87 l0 x8_1).f2.f0))) (fun _ hk => hk.2) (.int .u64 ((rd_T87 l0 x8_1).f2.f1))) (fun _ hk => trivial)))); (case aS => exact (below_size (pb HB))); (case aL => have := LMc5.out; omega); intro v378 w8 ho hb hg hat; rw [← Ny377.out] at ho; replace BK376 := am (blk_grown (g := gb376) (o := .cells #[.string ((rd_T87 l0 x8_1).f0), .int .u64 ((rd_T87 l0 x8_1).f1), .int .u64 ((rd_T87 l0 x8_1).f2.f0), .int .u64 ((rd_T87 l0 x8_1).f2.f1)] 87 (0, 0)) (by refine pk ?_; refine blk_put (cs := #[.string ((rd_T87 l0 x8_1).f0), .int .u64 ((rd_T87 l0 x8_1).f1), .int .u64 ((rd_T87 l0 x8_1).f2.f0), .int .u64 0]) ?_ 3 _ rfl; refine pk ?_; refine blk_put (cs := #[.string ((rd_T87 l0 x8_1).f0), .int .u64 ((rd_T87 l0 x8_1).f1), .int .u64 0, .int .u64 0]) ?_ 2 _ rfl; refine pk ?_; refine blk_put (cs := #[.string ((rd_T87 l0 x8_1).f0), .int .u64 0, .int .u64 0, .int .u64 0]) ?_ 1 _ rfl; refine pk ?_; refine blk_put (cs := #[.string (⟨#[]⟩ : ByteArray), .int .u64 0, .int .u64 0, .int .u64 0]) ?_ 0 _ rfl; refine pk ?_; exact BK376.out) hg (Kd.R_ne HO_3.out BK376.out (by decide))); replace HB := am (hb); have HO379 := am (ho); clear HO_3; clear ho hb hg hat))
       go_roundg k1
       case measure => have := HK1.out; omega
       case rel => exact ⟨(y377), (wrap64 (x8_1 + 1)), (by first | rfl | (simp; done) | (simp [*]; done)), H', ⟨by have := HK1.out; omega⟩, ⟨pr HO379.out⟩, ⟨pb HB⟩⟩
      ·rw [if_neg c5] at H
       exact absurd H (by simp)
     ·rw [if_neg c4] at H
      exact absurd H (by simp)
    ·rw [if_neg c3] at H
     exact absurd H (by simp)
   ·rw [if_neg c2] at H
    have c2b0 : decide (x8_1 < (l0.length : Int)) = false := decide_eq_false c2
    clear c2
    obtain rfl := Option.some.inj H
    go_wp2
    go_ret
    exact ⟨_, by first | rfl | (simp [errW_none, errW_some] <;> rfl) | (simp [*, errW_none, errW_some] <;> rfl), by refine pr ?_; exact HO_3.out, pb HB⟩
end Go.Proofs.Ytpbiobbddgipkaa.H
