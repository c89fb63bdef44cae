import Derived.Test.YtojpmjkphgjmgaaHx0
import Derived.Test.YtojpmjkphgjmgaaHx1
import Derived.Test.YtojpmjkphgjmgaaHx2
import Derived.Test.YtojpmjkphgjmgaaHx13
namespace Go.Proofs.Ytojpmjkphgjmgaa.H
open Go.RowKit Go.Proofs.YtojpmjkphgjmgaaW.PrintWords Go.Proofs.YtojpmjkphgjmgaaW.PrintLast Go.Proofs.YtojpmjkphgjmgaaW.PrintMore Go.Proofs.YtojpmjkphgjmgaaW.Sq
attribute [local go_sem] max2_int min2_int max_two min_two max_three min_three max_four min_four
set_option linter.unusedVariables false
set_option linter.unusedSimpArgs false

attribute [local go_sem high] eqA24 eqA46
mutual
def r12_Same.j0 : Nat → Bool → Int → Int → List (S46) → Int → Int → List (S46) → Option (Bool)
 | 0, _, _, _, _, _, _, _ => none
 | k + 1, x19, x318000, x318001, x318002, x319000, x319001, x319002 => if x19 = true then (some false) else (r12_Same.l0 k 0 x318000 x318001 x318002 x319000 x319001 x319002)
def r12_Same.l0 : Nat → Int → Int → Int → List (S46) → Int → Int → List (S46) → Option (Bool)
 | 0, _, _, _, _, _, _, _ => none
 | k + 1, x5, x318000, x318001, x318002, x319000, x319001, x319002 => if x5 < (x318002.length : Int) then (if 0 ≤ x5 then (if x5 < (x319002.length : Int) then (if (!(((rd_T46 x318002 x5).f0) == ((rd_T46 x319002 x5).f0)) || (!((((rd_T46 x318002 x5).f1).toList) == (((rd_T46 x319002 x5).f1).toList)) || (!(((rd_T46 x318002 x5).f2) == ((rd_T46 x319002 x5).f2))))) = true then (some false) else (r12_Same.l0 k (wrap64 (x5 + 1)) x318000 x318001 x318002 x319000 x319001 x319002)) else (none)) else (none)) else (some true)
end
def r12_Same.f (k : Nat) (a0_0 : Int) (a0_1 : Int) (l0_2 : List (S46)) (a1_0 : Int) (a1_1 : Int) (l1_2 : List (S46)) : Option (Bool) := if (!(a0_0 == a1_0) || (!(a0_1 == a1_1))) = true then (r12_Same.j0 k true a0_0 a0_1 l0_2 a1_0 a1_1 l1_2) else (r12_Same.j0 k ((l0_2.length : Int) != (l1_2.length : Int)) a0_0 a0_1 l0_2 a1_0 a1_1 l1_2)
theorem r12_Same.mono_l : ∀ k, (∀ y0 y1 y2 y3 y4 y5 y6, LeO (r12_Same.j0 k y0 y1 y2 y3 y4 y5 y6) (r12_Same.j0 (k + 1) y0 y1 y2 y3 y4 y5 y6)) ∧ (∀ y0 y1 y2 y3 y4 y5 y6, LeO (r12_Same.l0 k y0 y1 y2 y3 y4 y5 y6) (r12_Same.l0 (k + 1) y0 y1 y2 y3 y4 y5 y6))
 | 0 => ⟨fun _ _ _ _ _ _ _ r h => by simp [r12_Same.j0] at h, fun _ _ _ _ _ _ _ r h => by simp [r12_Same.l0] at h⟩
 | k + 1 => by
  obtain ⟨ih0, ih1⟩ := r12_Same.mono_l k
  refine ⟨?_, ?_⟩
  ·intro y0 y1 y2 y3 y4 y5 y6
   unfold r12_Same.j0
   repeat' first
   | (with_reducible exact ih0 _ _ _ _ _ _ _)
   | (with_reducible exact ih1 _ _ _ _ _ _ _)
   | (with_reducible exact LeO.refl _)
   | (with_reducible exact LeO.none _)
   | (with_reducible refine LeO.ite ?_ ?_)
   | (with_reducible refine LeO.bind ?_ (fun _ => ?_))
  ·intro y0 y1 y2 y3 y4 y5 y6
   unfold r12_Same.l0
   repeat' first
   | (with_reducible exact ih0 _ _ _ _ _ _ _)
   | (with_reducible exact ih1 _ _ _ _ _ _ _)
   | (with_reducible exact LeO.refl _)
   | (with_reducible exact LeO.none _)
   | (with_reducible refine LeO.ite ?_ ?_)
   | (with_reducible refine LeO.bind ?_ (fun _ => ?_))
theorem r12_Same.mono : ∀ a0 a1 a2 a3 a4 a5 k, LeO (r12_Same.f k a0 a1 a2 a3 a4 a5) (r12_Same.f (k + 1) a0 a1 a2 a3 a4 a5) := by
 intro a0 a1 a2 a3 a4 a5 k
 obtain ⟨ih0, ih1⟩ := r12_Same.mono_l k
 unfold r12_Same.f
 repeat' first
   | (with_reducible exact ih0 _ _ _ _ _ _ _)
   | (with_reducible exact ih1 _ _ _ _ _ _ _)
   | (with_reducible exact LeO.refl _)
   | (with_reducible exact LeO.none _)
   | (with_reducible refine LeO.ite ?_ ?_)
   | (with_reducible refine LeO.bind ?_ (fun _ => ?_))
set_option maxHeartbeats 8000000 in
set_option maxRecDepth 100000 in
theorem r12_Same.calls (k : Nat) (a0_0 : Int) (a0_1 : Int) (A0_2 : Option Addr) (c0_2 : Nat) (l0_2 : List (S46)) (a1_0 : Int) (a1_1 : Int) (A1_2 : Option Addr) (c1_2 : Nat) (l1_2 : List (S46)) (r : Bool) (w : World) (hr0_2 : Kd.C k46 w A0_2 l0_2.length l0_2) (hc0_2 : l0_2.length ≤ c0_2) (hr1_2 : Kd.C k46 w A1_2 l1_2.length l1_2) (hc1_2 : l1_2.length ≤ c1_2) (h : r12_Same.f k a0_0 a0_1 l0_2 a1_0 a1_1 l1_2 = some r) :
  Calls Try.prog 17 #[.agg #[.int .u64 a0_0, .int .u64 a0_1, .slice A0_2 l0_2.length c0_2], .agg #[.int .u64 a1_0, .int .u64 a1_1, .slice A1_2 l1_2.length c1_2]] w fun e w' => e = .returned (.bool r) ∧ Below w.heap.size w w' := by
 have hu30 := Try.underlying30
 have hu24 := Try.underlying24
 have hu46 := Try.underlying46
 have HR0_2 := am hr0_2
 have HC0_2 := am hc0_2
 clear hr0_2 hc0_2
 have HR1_2 := am hr1_2
 have HC1_2 := am hc1_2
 clear hr1_2 hc1_2
 have HB := am (Below.refl w.heap.size w)
 have H : (if (!(a0_0 == a1_0) || (!(a0_1 == a1_1))) = true then (r12_Same.j0 k true a0_0 a0_1 l0_2 a1_0 a1_1 l1_2) else (r12_Same.j0 k ((l0_2.length : Int) != (l1_2.length : Int)) a0_0 a0_1 l0_2 a1_0 a1_1 l1_2)) = some r := h
 clear h
 have HC3 := am H
 clear H
 go_enter Try.func17, Try.ntmps17
 go_upto_region 1 with (first | ((with_reducible refine gate_dst (N := 2) rfl ?_); (try (refine gate_guard (by rfl) ?_; dsimp only)); refine be 2 #[.int .u64 a0_0, .int .u64 a0_1, .slice A0_2 l0_2.length c0_2] 30 ?_; intro gb317 hg w4 hbox hb; have n0_ := am (below_step (pb HB) hb); have n1_ := am (hbox); have n2_ := am ((pg hg HB : w.heap.size ≤ gb317)); have n3_ := am ((pg hg HB : w.heap.size ≤ gb317)); clear HB; have HB := n0_; have BK317 := n1_; have GW317 := n2_; have GE317 := n3_; clear n0_ n1_ n2_ n3_; clear hb hbox hg) | ((with_reducible refine gate_dst (N := 3) rfl ?_); (try (refine gate_guard (by rfl) ?_; dsimp only)); refine be 3 #[.int .u64 a1_0, .int .u64 a1_1, .slice A1_2 l1_2.length c1_2] 30 ?_; intro gb318 hg w5 hbox hb; have n0_ := am (blk_below (pk BK317.out) hb); have n1_ := am (below_step (pb HB) hb); have n2_ := am (hbox); have n3_ := am ((pg hg HB : w.heap.size ≤ gb318)); have n4_ := am ((pg hg HB : w.heap.size ≤ gb318)); have n5_ := am ((pl hg (pk BK317.out) : gb317 ≠ gb318)); have n6_ := am ((pl' hg (pk BK317.out) : gb318 ≠ gb317)); clear BK317; clear HB; have BK317 := n0_; have HB := n1_; have BK318 := n2_; have GW318 := n3_; have GE318 := n4_; have NB317_318 := n5_; have NB318_317 := n6_; clear n0_ n1_ n2_ n3_ n4_ n5_ n6_; clear hb hbox hg))
 repeat (go_quiet (first | ((with_reducible refine gate_dst (N := 2) rfl ?_); (try (refine gate_guard (by rfl) ?_; dsimp only)); refine be 2 #[.int .u64 a0_0, .int .u64 a0_1, .slice A0_2 l0_2.length c0_2] 30 ?_; intro gb317 hg w4 hbox hb; have n0_ := am (below_step (pb HB) hb); have n1_ := am (hbox); have n2_ := am ((pg hg HB : w.heap.size ≤ gb317)); have n3_ := am ((pg hg HB : w.heap.size ≤ gb317)); clear HB; have HB := n0_; have BK317 := n1_; have GW317 := n2_; have GE317 := n3_; clear n0_ n1_ n2_ n3_; clear hb hbox hg) | ((with_reducible refine gate_dst (N := 3) rfl ?_); (try (refine gate_guard (by rfl) ?_; dsimp only)); refine be 3 #[.int .u64 a1_0, .int .u64 a1_1, .slice A1_2 l1_2.length c1_2] 30 ?_; intro gb318 hg w5 hbox hb; have n0_ := am (blk_below (pk BK317.out) hb); have n1_ := am (below_step (pb HB) hb); have n2_ := am (hbox); have n3_ := am ((pg hg HB : w.heap.size ≤ gb318)); have n4_ := am ((pg hg HB : w.heap.size ≤ gb318)); have n5_ := am ((pl hg (pk BK317.out) : gb317 ≠ gb318)); have n6_ := am ((pl' hg (pk BK317.out) : gb318 ≠ gb317)); clear BK317; clear HB; have BK317 := n0_; have HB := n1_; have BK318 := n2_; have GW318 := n3_; have GE318 := n4_; have NB317_318 := n5_; have NB318_317 := n6_; clear n0_ n1_ n2_ n3_ n4_ n5_ n6_; clear hb hbox hg)); go_upto_region 1 with (first | ((with_reducible refine gate_dst (N := 2) rfl ?_); (try (refine gate_guard (by rfl) ?_; dsimp only)); refine be 2 #[.int .u64 a0_0, .int .u64 a0_1, .slice A0_2 l0_2.length c0_2] 30 ?_; intro gb317 hg w4 hbox hb; have n0_ := am (below_step (pb HB) hb); have n1_ := am (hbox); have n2_ := am ((pg hg HB : w.heap.size ≤ gb317)); have n3_ := am ((pg hg HB : w.heap.size ≤ gb317)); clear HB; have HB := n0_; have BK317 := n1_; have GW317 := n2_; have GE317 := n3_; clear n0_ n1_ n2_ n3_; clear hb hbox hg) | ((with_reducible refine gate_dst (N := 3) rfl ?_); (try (refine gate_guard (by rfl) ?_; dsimp only)); refine be 3 #[.int .u64 a1_0, .int .u64 a1_1, .slice A1_2 l1_2.length c1_2] 30 ?_; intro gb318 hg w5 hbox hb; have n0_ := am (blk_below (pk BK317.out) hb); have n1_ := am (below_step (pb HB) hb); have n2_ := am (hbox); have n3_ := am ((pg hg HB : w.heap.size ≤ gb318)); have n4_ := am ((pg hg HB : w.heap.size ≤ gb318)); have n5_ := am ((pl hg (pk BK317.out) : gb317 ≠ gb318)); have n6_ := am ((pl' hg (pk BK317.out) : gb318 ≠ gb317)); clear BK317; clear HB; have BK317 := n0_; have HB := n1_; have BK318 := n2_; have GW318 := n3_; have GE318 := n4_; have NB317_318 := n5_; have NB318_317 := n6_; clear n0_ n1_ n2_ n3_ n4_ n5_ n6_; clear hb hbox hg)))
 (try simp only [Act.put, List.setIfInBounds_toArray, List.set_cons_zero, List.set_cons_succ])
 go_cut [19] (fun v19 wc => ∃ (kq : Nat) (x19_2 : Bool), v19 = .bool x19_2 ∧ Aside0 (r12_Same.j0 kq x19_2 a0_0 a0_1 l0_2 a1_0 a1_1 l1_2 = some r) ∧ Aside0 (kq ≤ k) ∧ Aside0 (wc.heap[gb317]? = some (.cells #[.int .u64 a0_0, .int .u64 a0_1, (.slice A0_2 l0_2.length c0_2)] 30 (0, 0))) ∧ Aside0 (wc.heap[gb318]? = some (.cells #[.int .u64 a1_0, .int .u64 a1_1, (.slice A1_2 l1_2.length c1_2)] 30 (0, 0))) ∧ Aside0 (Below w.heap.size w wc))
 case first =>
  have H := HC3.out
  clear HC3
  by_cases c6 : (!(a0_0 == a1_0) || (!(a0_1 == a1_1))) = true
  ·rw [if_pos c6] at H
   have c6b0 : (!(a0_0 == a1_0) || (!(a0_1 == a1_1))) = true := c6
   clear c6
   (first | rw [c6b0] | (simp only [i64_w, i32_w]; rw [c6b0]) | skip)
   have H' := am H
   clear H
   have hnb7 := NB317_318.out
   have hnc7 := NB318_317.out
   have hcz8_0 := ce BK317 0
   have hcz8_1 := ce BK317 1
   have hcz8_2 := ce BK317 2
   have hfz8_0 := fz BK317 0
   have hfz8_1 := fz BK317 1
   have hfz8_2 := fz BK317 2
   have hcz9_0 := ce BK318 0
   have hcz9_1 := ce BK318 1
   have hcz9_2 := ce BK318 2
   have hfz9_0 := fz BK318 0
   have hfz9_1 := fz BK318 1
   have hfz9_2 := fz BK318 2
   go_wp2
   repeat (go_quiet (fail); try go_wp2)
   go_meet
   case rel => exact ⟨_, (true), (by first | rfl | (simp; done) | (simp [*]; done)), H', ⟨by first | omega | exact Nat.le_refl _⟩, ⟨pk BK317.out⟩, ⟨pk BK318.out⟩, ⟨pb HB⟩⟩
  ·rw [if_neg c6] at H
   have c6b0 : (!(a0_0 == a1_0) || (!(a0_1 == a1_1))) = false := by simpa using c6
   clear c6
   (first | rw [c6b0] | (simp only [i64_w, i32_w]; rw [c6b0]) | skip)
   have H' := am H
   clear H
   have hnb10 := NB317_318.out
   have hnc10 := NB318_317.out
   have hcz11_0 := ce BK317 0
   have hcz11_1 := ce BK317 1
   have hcz11_2 := ce BK317 2
   have hfz11_0 := fz BK317 0
   have hfz11_1 := fz BK317 1
   have hfz11_2 := fz BK317 2
   have hcz12_0 := ce BK318 0
   have hcz12_1 := ce BK318 1
   have hcz12_2 := ce BK318 2
   have hfz12_0 := fz BK318 0
   have hfz12_1 := fz BK318 1
   have hfz12_2 := fz BK318 2
   go_wp2
   repeat (go_quiet (fail); try go_wp2)
   go_meet
   case rel => exact ⟨_, (((l0_2.length : Int) != (l1_2.length : Int))), (by first | rfl | (simp; done) | (simp [*]; done)), H', ⟨by first | omega | exact Nat.le_refl _⟩, ⟨pk BK317.out⟩, ⟨pk BK318.out⟩, ⟨pb HB⟩⟩
 case rest =>
  clear HC3
  try clear c1
  try clear p2
  try clear c6
  try clear c6b0
  try clear c7
  try clear c10
  try clear hcz11_0 hcz11_1 hcz11_2
  try clear hcz12_0 hcz12_1 hcz12_2
  try clear hcz8_0 hcz8_1 hcz8_2
  try clear hcz9_0 hcz9_1 hcz9_2
  try clear hfz11_0 hfz11_1 hfz11_2
  try clear hfz12_0 hfz12_1 hfz12_2
  try clear hfz8_0 hfz8_1 hfz8_2
  try clear hfz9_0 hfz9_1 hfz9_2
  obtain ⟨kq, x19_2, rfl, HA, HJ2, BK317, BK318, HB⟩ := hcut
  cases kq with
  | zero => exact absurd HA.out (by simp [r12_Same.j0])
  | succ kj2 =>
   have H := HA.out
   clear HA
   simp only [r12_Same.j0] at H
   by_cases c13 : x19_2 = true
   ·subst c13
    have H1 : (some false) = some r := by rw [if_pos rfl] at H; exact H
    clear H
    have H := H1
    clear H1
    obtain rfl := Option.some.inj H
    go_wp2
    repeat (go_quiet (fail); try go_wp2)
    go_ret
    exact ⟨by first | rfl | (simp [errW_none, errW_some] <;> rfl) | (simp [*, errW_none, errW_some] <;> rfl), pb HB⟩
   ·replace c13 := Bool.eq_false_iff.mpr c13
    subst c13
    have H1 : (r12_Same.l0 kj2 0 a0_0 a0_1 l0_2 a1_0 a1_1 l1_2) = some r := by rw [if_neg (show ¬ (false = true) by decide)] at H; exact H
    clear H
    have H := H1
    clear H1
    have H' := am H
    clear H
    go_wp2
    repeat (go_quiet (fail); try go_wp2)
    go_loopg [5] kj2 (fun kq v5 w' => ∃ (x5_2 : Int), v5 = .int .i64 x5_2 ∧ Aside0 (r12_Same.l0 kq x5_2 a0_0 a0_1 l0_2 a1_0 a1_1 l1_2 = some r) ∧ Aside0 (kq ≤ kj2) ∧ Aside0 (w'.heap[gb317]? = some (.cells #[.int .u64 a0_0, .int .u64 a0_1, (.slice A0_2 l0_2.length c0_2)] 30 (0, 0))) ∧ Aside0 (w'.heap[gb318]? = some (.cells #[.int .u64 a1_0, .int .u64 a1_1, (.slice A1_2 l1_2.length c1_2)] 30 (0, 0))) ∧ Aside0 (Below w.heap.size w w'))
    case atStart => exact ⟨(0), (by first | rfl | (simp; done) | (simp [*]; done)), H', ⟨Nat.le_refl _⟩, ⟨pk BK317.out⟩, ⟨pk BK318.out⟩, ⟨pb HB⟩⟩
    case round =>
     clear H'
     try clear c1
     try clear p2
     try clear c6
     try clear c6b0
     try clear c7
     try clear c10
     try clear c13
     try clear hcz11_0 hcz11_1 hcz11_2
     try clear hcz12_0 hcz12_1 hcz12_2
     try clear hcz8_0 hcz8_1 hcz8_2
     try clear hcz9_0 hcz9_1 hcz9_2
     try clear hfz11_0 hfz11_1 hfz11_2
     try clear hfz12_0 hfz12_1 hfz12_2
     try clear hfz8_0 hfz8_1 hfz8_2
     try clear hfz9_0 hfz9_1 hfz9_2
     try clear p2
     obtain ⟨x5_2, rfl, HA, HK2, BK317, BK318, HB⟩ := hrel
     cases gk with
     | zero => exact absurd HA.out (by simp [r12_Same.l0])
     | succ k2 =>
      have H := HA.out
      clear HA
      simp only [r12_Same.l0] at H
      by_cases c14 : x5_2 < (l0_2.length : Int)
      ·rw [if_pos c14] at H
       have c14b0 : decide (x5_2 < (l0_2.length : Int)) = true := decide_eq_true c14
       clear c14
       by_cases c15 : 0 ≤ x5_2
       ·rw [if_pos c15] at H
        have c15b0 : decide (0 ≤ x5_2) = true := decide_eq_true c15
        clear c15
        by_cases c16 : x5_2 < (l1_2.length : Int)
        ·rw [if_pos c16] at H
         have c16b0 : decide (x5_2 < (l1_2.length : Int)) = true := decide_eq_true c16
         clear c16
         by_cases c17 : (!(((rd_T46 l0_2 x5_2).f0) == ((rd_T46 l1_2 x5_2).f0)) || (!((((rd_T46 l0_2 x5_2).f1).toList) == (((rd_T46 l1_2 x5_2).f1).toList)) || (!(((rd_T46 l0_2 x5_2).f2) == ((rd_T46 l1_2 x5_2).f2))))) = true
         ·rw [if_pos c17] at H
          have c17b0 : (!(((rd_T46 l0_2 x5_2).f0) == ((rd_T46 l1_2 x5_2).f0)) || (!((((rd_T46 l0_2 x5_2).f1).toList) == (((rd_T46 l1_2 x5_2).f1).toList)) || (!(((rd_T46 l0_2 x5_2).f2) == ((rd_T46 l1_2 x5_2).f2))))) = true := c17
          clear c17
          obtain rfl := Option.some.inj H
          have hnb18 := NB317_318.out
          have hnc18 := NB318_317.out
          have hcz19_0 := ce BK317 0
          have hcz19_1 := ce BK317 1
          have hcz19_2 := ce BK317 2
          have hfz19_0 := fz BK317 0
          have hfz19_1 := fz BK317 1
          have hfz19_2 := fz BK317 2
          have p319 : 0 ≤ (x5_2 : Int) := of_decide_eq_true (by first | (with_reducible assumption) | assumption)
          have q319 : x5_2 < (l0_2.length : Int) := of_decide_eq_true (by first | (with_reducible assumption) | assumption)
          obtain ⟨ad319, e319, hx319_0, hx319_1, hx319_2⟩ := at_T46 HR0_2.out x5_2 p319 q319
          cases e319
          replace hx319_0 := (HB.out.cell (World.block_lt_of_cell? w _ hx319_0)).trans hx319_0
          replace hx319_1 := (HB.out.cell (World.block_lt_of_cell? w _ hx319_1)).trans hx319_1
          replace hx319_2 := (HB.out.cell (World.block_lt_of_cell? w _ hx319_2)).trans hx319_2
          replace p319 := eq_true p319
          replace q319 := eq_true q319
          have hcz20_0 := ce BK318 0
          have hcz20_1 := ce BK318 1
          have hcz20_2 := ce BK318 2
          have hfz20_0 := fz BK318 0
          have hfz20_1 := fz BK318 1
          have hfz20_2 := fz BK318 2
          have p320 : 0 ≤ (x5_2 : Int) := of_decide_eq_true (by first | (with_reducible assumption) | assumption)
          have q320 : x5_2 < (l1_2.length : Int) := of_decide_eq_true (by first | (with_reducible assumption) | assumption)
          obtain ⟨ad320, e320, hx320_0, hx320_1, hx320_2⟩ := at_T46 HR1_2.out x5_2 p320 q320
          cases e320
          replace hx320_0 := (HB.out.cell (World.block_lt_of_cell? w _ hx320_0)).trans hx320_0
          replace hx320_1 := (HB.out.cell (World.block_lt_of_cell? w _ hx320_1)).trans hx320_1
          replace hx320_2 := (HB.out.cell (World.block_lt_of_cell? w _ hx320_2)).trans hx320_2
          replace p320 := eq_true p320
          replace q320 := eq_true q320
          go_wp2
          repeat (go_quiet (fail); try go_wp2)
          go_ret
          exact ⟨by first | rfl | (simp [errW_none, errW_some] <;> rfl) | (simp [*, errW_none, errW_some] <;> rfl), pb HB⟩
         ·rw [if_neg c17] at H
          have c17b0 : (!(((rd_T46 l0_2 x5_2).f0) == ((rd_T46 l1_2 x5_2).f0)) || (!((((rd_T46 l0_2 x5_2).f1).toList) == (((rd_T46 l1_2 x5_2).f1).toList)) || (!(((rd_T46 l0_2 x5_2).f2) == ((rd_T46 l1_2 x5_2).f2))))) = false := by simpa using c17
          clear c17
          have H' := am H
          clear H
          have hnb21 := NB317_318.out
          have hnc21 := NB318_317.out
          have hcz22_0 := ce BK317 0
          have hcz22_1 := ce BK317 1
          have hcz22_2 := ce BK317 2
          have hfz22_0 := fz BK317 0
          have hfz22_1 := fz BK317 1
          have hfz22_2 := fz BK317 2
          have p319 : 0 ≤ (x5_2 : Int) := of_decide_eq_true (by first | (with_reducible assumption) | assumption)
          have q319 : x5_2 < (l0_2.length : Int) := of_decide_eq_true (by first | (with_reducible assumption) | assumption)
          obtain ⟨ad319, e319, hx319_0, hx319_1, hx319_2⟩ := at_T46 HR0_2.out x5_2 p319 q319
          cases e319
          replace hx319_0 := (HB.out.cell (World.block_lt_of_cell? w _ hx319_0)).trans hx319_0
          replace hx319_1 := (HB.out.cell (World.block_lt_of_cell? w _ hx319_1)).trans hx319_1
          replace hx319_2 := (HB.out.cell (World.block_lt_of_cell? w _ hx319_2)).trans hx319_2
          replace p319 := eq_true p319
          replace q319 := eq_true q319
          have hcz23_0 := ce BK318 0
          have hcz23_1 := ce BK318 1
          have hcz23_2 := ce BK318 2
          have hfz23_0 := fz BK318 0
          have hfz23_1 := fz BK318 1
          have hfz23_2 := fz BK318 2
          have p320 : 0 ≤ (x5_2 : Int) := of_decide_eq_true (by first | (with_reducible assumption) | assumption)
          have q320 : x5_2 < (l1_2.length : Int) := of_decide_eq_true (by first | (with_reducible assumption) | assumption)
          obtain ⟨ad320, e320, hx320_0, hx320_1, hx320_2⟩ := at_T46 HR1_2.out x5_2 p320 q320
          cases e320
          replace hx320_0 := (HB.out.cell (World.block_lt_of_cell? w _ hx320_0)).trans hx320_0
          replace hx320_1 := (HB.out.cell (World.block_lt_of_cell? w _ hx320_1)).trans hx320_1
          replace hx320_2 := (HB.out.cell (World.block_lt_of_cell? w _ hx320_2)).trans hx320_2
          replace p320 := eq_true p320
          replace q320 := eq_true q320
          go_wp2
          repeat (go_quiet (fail); try go_wp2)
          go_roundg k2
          case measure => have := HJ2.out; have := HK2.out; omega
          case rel => exact ⟨(wrap64 (x5_2 + 1)), (by first | rfl | (simp; done) | (simp [*]; done)), H', ⟨by have := HJ2.out; have := HK2.out; omega⟩, ⟨pk BK317.out⟩, ⟨pk BK318.out⟩, ⟨pb HB⟩⟩
        ·rw [if_neg c16] at H
         exact absurd H (by simp)
       ·rw [if_neg c15] at H
        exact absurd H (by simp)
      ·rw [if_neg c14] at H
       have c14b0 : decide (x5_2 < (l0_2.length : Int)) = false := decide_eq_false c14
       clear c14
       obtain rfl := Option.some.inj H
       have hnb24 := NB317_318.out
       have hnc24 := NB318_317.out
       have hcz25_0 := ce BK317 0
       have hcz25_1 := ce BK317 1
       have hcz25_2 := ce BK317 2
       have hfz25_0 := fz BK317 0
       have hfz25_1 := fz BK317 1
       have hfz25_2 := fz BK317 2
       go_wp2
       repeat (go_quiet (fail); try go_wp2)
       go_ret
       exact ⟨by first | rfl | (simp [errW_none, errW_some] <;> rfl) | (simp [*, errW_none, errW_some] <;> rfl), pb HB⟩
def r12_Find.l0 : Nat → ByteArray → Int → Int → Int → List (S46) → Option (Int)
 | 0, _, _, _, _, _ => none
 | k + 1, x1, x5, x322000, x322001, x322002 => if x5 < (x322002.length : Int) then (if 0 ≤ x5 then (if (rd_T46 x322002 x5).f0 = true then (if ((rd_T46 x322002 x5).f1).toList = x1.toList then (some x5) else (r12_Find.l0 k x1 (wrap64 (x5 + 1)) x322000 x322001 x322002)) else (r12_Find.l0 k x1 (wrap64 (x5 + 1)) x322000 x322001 x322002)) else (none)) else (some (-1))
def r12_Find.f (k : Nat) (a0_0 : Int) (a0_1 : Int) (l0_2 : List (S46)) (a1 : ByteArray) : Option (Int) := r12_Find.l0 k a1 0 a0_0 a0_1 l0_2
theorem r12_Find.mono_l : ∀ k, (∀ y0 y1 y2 y3 y4, LeO (r12_Find.l0 k y0 y1 y2 y3 y4) (r12_Find.l0 (k + 1) y0 y1 y2 y3 y4))
 | 0 => fun _ _ _ _ _ r h => by simp [r12_Find.l0] at h
 | k + 1 => by
  have ih0 := r12_Find.mono_l k
  ·intro y0 y1 y2 y3 y4
   unfold r12_Find.l0
   repeat' first
   | (with_reducible exact ih0 _ _ _ _ _)
   | (with_reducible exact LeO.refl _)
   | (with_reducible exact LeO.none _)
   | (with_reducible refine LeO.ite ?_ ?_)
   | (with_reducible refine LeO.bind ?_ (fun _ => ?_))
theorem r12_Find.mono : ∀ a0 a1 a2 a3 k, LeO (r12_Find.f k a0 a1 a2 a3) (r12_Find.f (k + 1) a0 a1 a2 a3) := by
 intro a0 a1 a2 a3 k
 have ih0 := r12_Find.mono_l k
 unfold r12_Find.f
 repeat' first
   | (with_reducible exact ih0 _ _ _ _ _)
   | (with_reducible exact LeO.refl _)
   | (with_reducible exact LeO.none _)
   | (with_reducible refine LeO.ite ?_ ?_)
   | (with_reducible refine LeO.bind ?_ (fun _ => ?_))
set_option maxHeartbeats 8000000 in
set_option maxRecDepth 100000 in
theorem r12_Find.calls (k : Nat) (a0_0 : Int) (a0_1 : Int) (A0_2 : Option Addr) (c0_2 : Nat) (l0_2 : List (S46)) (a1 : ByteArray) (r : Int) (w : World) (hr0_2 : Kd.C k46 w A0_2 l0_2.length l0_2) (hc0_2 : l0_2.length ≤ c0_2) (h : r12_Find.f k a0_0 a0_1 l0_2 a1 = some r) :
  Calls Try.prog 18 #[.agg #[.int .u64 a0_0, .int .u64 a0_1, .slice A0_2 l0_2.length c0_2], .string a1] w fun e w' => e = .returned (.int .i64 r) ∧ Below w.heap.size w w' := by
 have hu30 := Try.underlying30
 have HR0_2 := am hr0_2
 have HC0_2 := am hc0_2
 clear hr0_2 hc0_2
 have HB := am (Below.refl w.heap.size w)
 have H : (r12_Find.l0 k a1 0 a0_0 a0_1 l0_2) = some r := h
 clear h
 have H' := am H
 clear H
 go_enter Try.func18, Try.ntmps18
 go_wp2_with (first | ((with_reducible refine gate_dst (N := 2) rfl ?_); refine be 2 #[.int .u64 a0_0, .int .u64 a0_1, .slice A0_2 l0_2.length c0_2] 30 ?_; intro gb321 hg w3 hbox hb; have n0_ := am (below_step (pb HB) hb); have n1_ := am (hbox); have n2_ := am ((pg hg HB : w.heap.size ≤ gb321)); have n3_ := am ((pg hg HB : w.heap.size ≤ gb321)); clear HB; have HB := n0_; have BK321 := n1_; have GW321 := n2_; have GE321 := n3_; clear n0_ n1_ n2_ n3_; clear hb hbox hg))
 go_loopg [5] k (fun kq v5 w' => ∃ (x5_1 : Int), v5 = .int .i64 x5_1 ∧ Aside0 (r12_Find.l0 kq a1 x5_1 a0_0 a0_1 l0_2 = some r) ∧ Aside0 (kq ≤ k) ∧ Aside0 (w'.heap[gb321]? = some (.cells #[.int .u64 a0_0, .int .u64 a0_1, (.slice A0_2 l0_2.length c0_2)] 30 (0, 0))) ∧ Aside0 (Below w.heap.size w w'))
 case atStart => exact ⟨(0), (by first | rfl | (simp; done) | (simp [*]; done)), H', ⟨Nat.le_refl _⟩, ⟨pk BK321.out⟩, ⟨pb HB⟩⟩
 case round =>
  clear H'
  try clear c1
  try clear p2
  obtain ⟨x5_1, rfl, HA, HK1, BK321, HB⟩ := hrel
  cases gk with
  | zero => exact absurd HA.out (by simp [r12_Find.l0])
  | succ k1 =>
   have H := HA.out
   clear HA
   simp only [r12_Find.l0] at H
   by_cases c4 : x5_1 < (l0_2.length : Int)
   ·rw [if_pos c4] at H
    have c4b0 : decide (x5_1 < (l0_2.length : Int)) = true := decide_eq_true c4
    clear c4
    by_cases c5 : 0 ≤ x5_1
    ·rw [if_pos c5] at H
     have c5b0 : decide (0 ≤ x5_1) = true := decide_eq_true c5
     clear c5
     obtain ⟨bq6, hbq6⟩ : ∃ b_ : Bool, b_ = ((rd_T46 l0_2 x5_1).f0) := ⟨_, rfl⟩
     replace H : (if bq6 = true then (if ((rd_T46 l0_2 x5_1).f1).toList = a1.toList then (some x5_1) else (r12_Find.l0 k1 a1 (wrap64 (x5_1 + 1)) a0_0 a0_1 l0_2)) else (r12_Find.l0 k1 a1 (wrap64 (x5_1 + 1)) a0_0 a0_1 l0_2)) = some r := by rw [← hbq6] at H; exact H
     have Nbq6 := am hbq6
     clear hbq6
     by_cases c7 : bq6 = true
     ·subst c7
      have H1 : (if ((rd_T46 l0_2 x5_1).f1).toList = a1.toList then (some x5_1) else (r12_Find.l0 k1 a1 (wrap64 (x5_1 + 1)) a0_0 a0_1 l0_2)) = some r := by rw [if_pos rfl] at H; exact H
      clear H
      have H := H1
      clear H1
      by_cases c8 : ((rd_T46 l0_2 x5_1).f1).toList = a1.toList
      ·rw [if_pos c8] at H
       have c8b0 : (((rd_T46 l0_2 x5_1).f1).toList == a1.toList) = true := beq_iff_eq.mpr c8
       have c8b1 : (((rd_T46 l0_2 x5_1).f1).toList != a1.toList) = false := bne_eq_false_iff_eq.mpr c8
       clear c8
       obtain rfl := Option.some.inj H
       have hcz9_0 := ce BK321 0
       have hcz9_1 := ce BK321 1
       have hcz9_2 := ce BK321 2
       have hfz9_0 := fz BK321 0
       have hfz9_1 := fz BK321 1
       have hfz9_2 := fz BK321 2
       have p322 : 0 ≤ (x5_1 : Int) := of_decide_eq_true (by first | (with_reducible assumption) | assumption)
       have q322 : x5_1 < (l0_2.length : Int) := of_decide_eq_true (by first | (with_reducible assumption) | assumption)
       obtain ⟨ad322, e322, hx322_0, hx322_1, hx322_2⟩ := at_T46 HR0_2.out x5_1 p322 q322
       (try rw [← Nbq6.out] at hx322_0)
       cases e322
       replace hx322_0 := (HB.out.cell (World.block_lt_of_cell? w _ hx322_0)).trans hx322_0
       replace hx322_1 := (HB.out.cell (World.block_lt_of_cell? w _ hx322_1)).trans hx322_1
       replace hx322_2 := (HB.out.cell (World.block_lt_of_cell? w _ hx322_2)).trans hx322_2
       replace p322 := eq_true p322
       replace q322 := eq_true q322
       have p323 : 0 ≤ (x5_1 : Int) := of_decide_eq_true (by first | (with_reducible assumption) | assumption)
       have q323 : x5_1 < (l0_2.length : Int) := of_decide_eq_true (by first | (with_reducible assumption) | assumption)
       obtain ⟨ad323, e323, hx323_0, hx323_1, hx323_2⟩ := at_T46 HR0_2.out x5_1 p323 q323
       (try rw [← Nbq6.out] at hx323_0)
       obtain rfl : ad322 = ad323 := (by injection e323)
       replace hx323_0 := (HB.out.cell (World.block_lt_of_cell? w _ hx323_0)).trans hx323_0
       replace hx323_1 := (HB.out.cell (World.block_lt_of_cell? w _ hx323_1)).trans hx323_1
       replace hx323_2 := (HB.out.cell (World.block_lt_of_cell? w _ hx323_2)).trans hx323_2
       replace p323 := eq_true p323
       replace q323 := eq_true q323
       go_wp2
       go_ret
       exact ⟨by first | rfl | (simp [errW_none, errW_some] <;> rfl) | (simp [*, errW_none, errW_some] <;> rfl), pb HB⟩
      ·rw [if_neg c8] at H
       have c8b0 : (((rd_T46 l0_2 x5_1).f1).toList == a1.toList) = false := beq_eq_false_iff_ne.mpr c8
       have c8b1 : (((rd_T46 l0_2 x5_1).f1).toList != a1.toList) = true := bne_iff_ne.mpr c8
       have H' := am H
       clear H
       have hcz10_0 := ce BK321 0
       have hcz10_1 := ce BK321 1
       have hcz10_2 := ce BK321 2
       have hfz10_0 := fz BK321 0
       have hfz10_1 := fz BK321 1
       have hfz10_2 := fz BK321 2
       have p322 : 0 ≤ (x5_1 : Int) := of_decide_eq_true (by first | (with_reducible assumption) | assumption)
       have q322 : x5_1 < (l0_2.length : Int) := of_decide_eq_true (by first | (with_reducible assumption) | assumption)
       obtain ⟨ad322, e322, hx322_0, hx322_1, hx322_2⟩ := at_T46 HR0_2.out x5_1 p322 q322
       (try rw [← Nbq6.out] at hx322_0)
       cases e322
       replace hx322_0 := (HB.out.cell (World.block_lt_of_cell? w _ hx322_0)).trans hx322_0
       replace hx322_1 := (HB.out.cell (World.block_lt_of_cell? w _ hx322_1)).trans hx322_1
       replace hx322_2 := (HB.out.cell (World.block_lt_of_cell? w _ hx322_2)).trans hx322_2
       replace p322 := eq_true p322
       replace q322 := eq_true q322
       have p323 : 0 ≤ (x5_1 : Int) := of_decide_eq_true (by first | (with_reducible assumption) | assumption)
       have q323 : x5_1 < (l0_2.length : Int) := of_decide_eq_true (by first | (with_reducible assumption) | assumption)
       obtain ⟨ad323, e323, hx323_0, hx323_1, hx323_2⟩ := at_T46 HR0_2.out x5_1 p323 q323
       (try rw [← Nbq6.out] at hx323_0)
       obtain rfl : ad322 = ad323 := (by injection e323)
       replace hx323_0 := (HB.out.cell (World.block_lt_of_cell? w _ hx323_0)).trans hx323_0
       replace hx323_1 := (HB.out.cell (World.block_lt_of_cell? w _ hx323_1)).trans hx323_1
       replace hx323_2 := (HB.out.cell (World.block_lt_of_cell? w _ hx323_2)).trans hx323_2
       replace p323 := eq_true p323
       replace q323 := eq_true q323
       go_wp2
       go_roundg k1
       case measure => have := HK1.out; omega
       case rel => exact ⟨(wrap64 (x5_1 + 1)), (by first | rfl | (simp; done) | (simp [*]; done)), H', ⟨by have := HK1.out; omega⟩, ⟨pk BK321.out⟩, ⟨pb HB⟩⟩
     ·replace c7 := Bool.eq_false_iff.mpr c7
      subst c7
      have H1 : (r12_Find.l0 k1 a1 (wrap64 (x5_1 + 1)) a0_0 a0_1 l0_2) = some r := by rw [if_neg (show ¬ (false = true) by decide)] at H; exact H
      clear H
      have H := H1
      clear H1
      have H' := am H
      clear H
      have hcz11_0 := ce BK321 0
      have hcz11_1 := ce BK321 1
      have hcz11_2 := ce BK321 2
      have hfz11_0 := fz BK321 0
      have hfz11_1 := fz BK321 1
      have hfz11_2 := fz BK321 2
      have p322 : 0 ≤ (x5_1 : Int) := of_decide_eq_true (by first | (with_reducible assumption) | assumption)
      have q322 : x5_1 < (l0_2.length : Int) := of_decide_eq_true (by first | (with_reducible assumption) | assumption)
      obtain ⟨ad322, e322, hx322_0, hx322_1, hx322_2⟩ := at_T46 HR0_2.out x5_1 p322 q322
      (try rw [← Nbq6.out] at hx322_0)
      cases e322
      replace hx322_0 := (HB.out.cell (World.block_lt_of_cell? w _ hx322_0)).trans hx322_0
      replace hx322_1 := (HB.out.cell (World.block_lt_of_cell? w _ hx322_1)).trans hx322_1
      replace hx322_2 := (HB.out.cell (World.block_lt_of_cell? w _ hx322_2)).trans hx322_2
      replace p322 := eq_true p322
      replace q322 := eq_true q322
      go_wp2
      go_roundg k1
      case measure => have := HK1.out; omega
      case rel => exact ⟨(wrap64 (x5_1 + 1)), (by first | rfl | (simp; done) | (simp [*]; done)), H', ⟨by have := HK1.out; omega⟩, ⟨pk BK321.out⟩, ⟨pb HB⟩⟩
    ·rw [if_neg c5] at H
     exact absurd H (by simp)
   ·rw [if_neg c4] at H
    have c4b0 : decide (x5_1 < (l0_2.length : Int)) = false := decide_eq_false c4
    clear c4
    obtain rfl := Option.some.inj H
    have hcz12_0 := ce BK321 0
    have hcz12_1 := ce BK321 1
    have hcz12_2 := ce BK321 2
    have hfz12_0 := fz BK321 0
    have hfz12_1 := fz BK321 1
    have hfz12_2 := fz BK321 2
    go_wp2
    go_ret
    exact ⟨by first | rfl | (simp [errW_none, errW_some] <;> rfl) | (simp [*, errW_none, errW_some] <;> rfl), pb HB⟩
def r12_set.f (a0_0 : Int) (a0_1 : Int) (l0_2 : List (S46)) (a1 : Int) (a2_0 : Bool) (a2_1 : ByteArray) (a2_2 : Int) : Option (Int × Int × (List (S46))) := if ([] : List (S46)).length + l0_2.length < 4398046511104 then ((some (([] : List (S46)) ++ l0_2 : List (S46))).bind fun y327 => (if 0 ≤ a1 then (if a1 < (y327.length : Int) then (some (a0_0, a0_1, (y327.set (a1 : Int).toNat (⟨a2_0, a2_1, a2_2⟩ : S46)))) else (none)) else (none))) else (none)
set_option maxHeartbeats 8000000 in
set_option maxRecDepth 100000 in
theorem r12_set.calls (a0_0 : Int) (a0_1 : Int) (A0_2 : Option Addr) (c0_2 : Nat) (l0_2 : List (S46)) (a1 : Int) (a2_0 : Bool) (a2_1 : ByteArray) (a2_2 : Int) (r1 : Int) (r2 : Int) (r3 : List (S46)) (w : World) (hr0_2 : Kd.C k46 w A0_2 l0_2.length l0_2) (hc0_2 : l0_2.length ≤ c0_2) (h : r12_set.f a0_0 a0_1 l0_2 a1 a2_0 a2_1 a2_2 = some (r1, r2, r3)) :
  Calls Try.prog 34 #[.agg #[.int .u64 a0_0, .int .u64 a0_1, .slice A0_2 l0_2.length c0_2], .int .i64 a1, .agg #[.bool a2_0, .string a2_1, .int .i64 a2_2]] w fun e w' => ∃ v2_ : Value, e = .returned (.agg #[.int .u64 r1, .int .u64 r2, v2_]) ∧ Kd.R k46 46 w' w.heap.size (fun _ => True) v2_ r3 ∧ Below w.heap.size w w' := by
 have hu30 := Try.underlying30
 have hu46 := Try.underlying46
 have hu24 := Try.underlying24
 have HR0_2 := am hr0_2
 have HC0_2 := am hc0_2
 clear hr0_2 hc0_2
 have HB := am (Below.refl w.heap.size w)
 have H : (if ([] : List (S46)).length + l0_2.length < 4398046511104 then ((some (([] : List (S46)) ++ l0_2 : List (S46))).bind fun y327 => (if 0 ≤ a1 then (if a1 < (y327.length : Int) then (some (a0_0, a0_1, (y327.set (a1 : Int).toNat (⟨a2_0, a2_1, a2_2⟩ : S46)))) else (none)) else (none))) else (none)) = some (r1, r2, r3) := h
 clear h
 by_cases c4 : ([] : List (S46)).length + l0_2.length < 4398046511104
 rotate_left
 ·rw [if_neg c4] at H
  exact absurd H (by simp)
 rw [if_pos c4] at H
 have LMc4 := am c4
 clear c4
 obtain ⟨y327, hy327⟩ : ∃ y_ : List (S46), y_ = (([] : List (S46)) ++ l0_2) := ⟨_, rfl⟩
 replace H : (if 0 ≤ a1 then (if a1 < (y327.length : Int) then (some (a0_0, a0_1, (y327.set (a1 : Int).toNat (⟨a2_0, a2_1, a2_2⟩ : S46)))) else (none)) else (none)) = some (r1, r2, r3) := by first | (rw [hy327]; with_reducible exact H) | (have H2_ := (Option.bind_some _ _).symm.trans H; rw [hy327]; with_reducible exact H2_) | (have H2_ := (Option.bind_some _ _).symm.trans H; with_reducible exact H2_) | with_reducible exact H | (rw [hy327]; exact H) | exact H
 have Ny327 := am hy327
 clear hy327
 by_cases c5 : 0 ≤ a1
 rotate_left
 ·rw [if_neg c5] at H
  exact absurd H (by simp)
 rw [if_pos c5] at H
 have c5b0 : decide (0 ≤ a1) = true := decide_eq_true c5
 clear c5
 by_cases c6 : a1 < (y327.length : Int)
 rotate_left
 ·rw [if_neg c6] at H
  exact absurd H (by simp)
 rw [if_pos c6] at H
 have c6b0 : decide (a1 < (y327.length : Int)) = true := decide_eq_true c6
 clear c6
 obtain ⟨y330, hy330⟩ : ∃ y_ : List (S46), y_ = (y327.set (a1 : Int).toNat (⟨a2_0, a2_1, a2_2⟩ : S46)) := ⟨_, rfl⟩
 replace H : (some (a0_0, a0_1, y330)) = some (r1, r2, r3) := by first | (rw [hy330]; with_reducible exact H) | (have H2_ := (Option.bind_some _ _).symm.trans H; rw [hy330]; with_reducible exact H2_) | (have H2_ := (Option.bind_some _ _).symm.trans H; with_reducible exact H2_) | with_reducible exact H | (rw [hy330]; exact H) | exact H
 have Ny330 := am hy330
 clear hy330
 simp only [Option.some.injEq, Prod.mk.injEq] at H
 obtain ⟨rfl, rfl, rfl⟩ := H
 go_enter Try.func34, Try.ntmps34
 go_wp2_with (first | ((with_reducible refine gate_dst (N := 3) rfl ?_); refine be 3 #[.int .u64 a0_0, .int .u64 a0_1, .slice A0_2 l0_2.length c0_2] 30 ?_; intro gb324 hg w8 hbox hb; have n0_ := am (below_step (pb HB) hb); have n1_ := am (hbox); have n2_ := am ((pg hg HB : w.heap.size ≤ gb324)); have n3_ := am ((pg hg HB : w.heap.size ≤ gb324)); clear HB; have HB := n0_; have BK324 := n1_; have GW324 := n2_; have GE324 := n3_; clear n0_ n1_ n2_ n3_; clear hb hbox hg) | ((with_reducible refine gate_dst (N := 5) rfl ?_); refine be 5 #[.bool a2_0, .string a2_1, .int .i64 a2_2] 46 ?_; intro gb325 hg w9 hbox hb; have n0_ := am (blk_below (pk BK324.out) hb); have n1_ := am (below_step (pb HB) hb); have n2_ := am (hbox); have n3_ := am ((pg hg HB : w.heap.size ≤ gb325)); have n4_ := am ((pg hg HB : w.heap.size ≤ gb325)); have n5_ := am ((pl hg (pk BK324.out) : gb324 ≠ gb325)); have n6_ := am ((pl' hg (pk BK324.out) : gb325 ≠ gb324)); clear BK324; clear HB; have BK324 := n0_; have HB := n1_; have BK325 := n2_; have GW325 := n3_; have GE325 := n4_; have NB324_325 := n5_; have NB325_324 := n6_; clear n0_ n1_ n2_ n3_ n4_ n5_ n6_; clear hb hbox hg) | ((with_reducible refine gate_dst (N := 6) rfl ?_); refine be 6 #[.int .u64 0, .int .u64 0, .slice none 0 0] 30 ?_; intro gb326 hg w10 hbox hb; have n0_ := am (blk_below (pk BK324.out) hb); have n1_ := am (blk_below (pk BK325.out) hb); have n2_ := am (below_step (pb HB) hb); have n3_ := am (hbox); have n4_ := am ((pg hg HB : w.heap.size ≤ gb326)); have n5_ := am ((pg hg HB : w.heap.size ≤ gb326)); have n6_ := am ((pl hg (pk BK324.out) : gb324 ≠ gb326)); have n7_ := am ((pl' hg (pk BK324.out) : gb326 ≠ gb324)); have n8_ := am ((pl hg (pk BK325.out) : gb325 ≠ gb326)); have n9_ := am ((pl' hg (pk BK325.out) : gb326 ≠ gb325)); clear BK324; clear BK325; clear HB; have BK324 := n0_; have BK325 := n1_; have HB := n2_; have BK326 := n3_; have GW326 := n4_; have GE326 := n5_; have NB324_326 := n6_; have NB326_324 := n7_; have NB325_326 := n8_; have NB326_325 := n9_; clear n0_ n1_ n2_ n3_ n4_ n5_ n6_ n7_ n8_ n9_; clear hb hbox hg; have hnb11 := NB324_325.out; have hnc11 := NB325_324.out; have hnb12 := NB324_326.out; have hnc12 := NB326_324.out; have hcz13_0 := ce BK324 0; have hcz13_1 := ce BK324 1; have hcz13_2 := ce BK324 2; have hfz13_0 := fz BK324 0; have hfz13_1 := fz BK324 1; have hfz13_2 := fz BK324 2) | ((with_reducible refine gate_builtin (b := .append) (xs := #[.tmp 8, .tmp 10]) rfl ?_); at_builtin; refine Kd.R_append_rows k46 (w0 := w) w.heap.size rfl (.tmp 8) (.tmp 10) 28 46 (.agg #[(.bool false), (.string ⟨#[]⟩), (.int .i64 0)]) 32 rfl Try.underlying28 info46 rfl (by decide) (by omega) (.slice none 0 0) ([] : List (S46)) l0_2 _ _ _ (fun k_ => k_ ≠ gb325) (fun _ => False) rfl rfl ?aO ?aR (fun _ _ h => h) (fun _ h => h.elim) ?aF ?aB ?aS ?aL ?_; (case aR => repeat (first | exact (Kd.C_below HR0_2.out HB.out) | (with_reducible refine Kd.C_alloc ?_ _) | (with_reducible refine Kd.C_drewN ?_ _) | (with_reducible refine Kd.C_drew ?_))); (case aB => exact (pb HB)); (case aF => exact (fun k_ hk => Kd.freshB (g := gb325) (o := .cells #[.bool a2_0, .string a2_1, .int .i64 a2_2] 46 (0, 0)) (pk BK325.out) k_ hk)); (case aO => exact ((Kd.R_nil _ _ _ _ (fun k_ => k_ ≠ gb325)))); (case aS => exact (below_size (pb HB))); (case aL => have := LMc4.out; omega); intro v328 w14 ho hb hg hat; rw [← Ny327.out] at ho; replace BK324 := am (blk_grown (g := gb324) (o := .cells #[.int .u64 a0_0, .int .u64 a0_1, .slice A0_2 l0_2.length c0_2] 30 (0, 0)) (pk BK324.out) hg (by simp [Value.ownBlock])); replace BK325 := am (blk_grown (g := gb325) (o := .cells #[.bool a2_0, .string a2_1, .int .i64 a2_2] 46 (0, 0)) (pk BK325.out) hg (by simp [Value.ownBlock])); replace BK326 := am (blk_grown (g := gb326) (o := .cells #[.int .u64 0, .int .u64 0, .slice none 0 0] 30 (0, 0)) (pk BK326.out) hg (by simp [Value.ownBlock])); replace HB := am (hb); have HO329 := am (ho); clear ho hb hg hat; have hnb15 := NB325_326.out; have hnc15 := NB326_325.out; have hcz16_0 := ce BK325 0; have hcz16_1 := ce BK325 1; have hcz16_2 := ce BK325 2; have hfz16_0 := fz BK325 0; have hfz16_1 := fz BK325 1; have hfz16_2 := fz BK325 2; have p7 : 0 ≤ (a1 : Int) := of_decide_eq_true (by first | (with_reducible assumption) | assumption); have q7 : (a1 : Int) < ((y327.length : Int) : Int) := of_decide_eq_true (by first | (with_reducible assumption) | assumption); obtain ⟨go7, co7, eo7, gb7, gl7, cl7, HG7⟩ := Kd.R_form HO329.out (by omega); (first | cases eo7 | (injection eo7 with ea_ en_ ec_; (first | subst ea_ | (injection ea_ with ea_; subst ea_)); subst ec_; clear en_)); have GB7 := am gb7; have GG7 := am HG7; clear gb7 gl7 HG7; obtain ⟨ce7, hcl7, hM7, hcc7, hfr7⟩ := Kd.R_elem HO329.out z46 (a1 : Int) p7 q7; obtain rfl := k46_openM hM7; have hx7_0 : w14.cell? ⟨go7, (a1 : Int).toNat * 3, none⟩ = some (.bool ((rd_T46 y327 a1).f0)) := hcc7 0 _ rfl; have hx7_1 : w14.cell? ⟨go7, (a1 : Int).toNat * 3 + 1, none⟩ = some (.string ((rd_T46 y327 a1).f1)) := hcc7 1 _ rfl; have hx7_2 : w14.cell? ⟨go7, (a1 : Int).toNat * 3 + 2, none⟩ = some (.int .i64 ((rd_T46 y327 a1).f2)) := hcc7 2 _ rfl; have hf7_0 : w14.frozen? ⟨go7, (a1 : Int).toNat * 3, none⟩ = false := hfr7 0; have hf7_1 : w14.frozen? ⟨go7, (a1 : Int).toNat * 3 + 1, none⟩ = false := hfr7 1; have hf7_2 : w14.frozen? ⟨go7, (a1 : Int).toNat * 3 + 2, none⟩ = false := hfr7 2; clear hcl7 hcc7 hfr7 hM7; replace p7 := eq_true p7; replace q7 := eq_true q7; have HX17 := am (show Kd.R k46 46 w14 w.heap.size (fun k_ => k_ ≠ gb325) (.slice (some ⟨go7, 0, none⟩) y327.length co7) y327 from (pr HO329.out)); obtain ⟨ce17, hcl17, hM17, hcc17, hfr17⟩ := Kd.R_elem HX17.out z46 (a1 : Int) (of_decide_eq_true (by first | (with_reducible assumption) | assumption)) (by have h_ : (a1 : Int) < ((y327.length : Int) : Int) := of_decide_eq_true (by first | (with_reducible assumption) | assumption); first | exact h_ | (have e_ := (Kd.R_reads' HO329.out).1; omega) | simpa using h_); obtain rfl := k46_openM hM17; have HP17 := Kd.R_seg HX17.out (a1 : Int) (of_decide_eq_true (by first | (with_reducible assumption) | assumption)) (by have h_ : (a1 : Int) < ((y327.length : Int) : Int) := of_decide_eq_true (by first | (with_reducible assumption) | assumption); first | exact h_ | (have e_ := (Kd.R_reads' HO329.out).1; omega) | simpa using h_) (seg := [.bool a2_0, .string a2_1, .int .i64 a2_2]) (j := 0) hcl17 hcc17 (show 3 ≤ 3 from by decide) (x' := (⟨a2_0, a2_1, a2_2⟩ : S46)) (k46_mkM _ _ _ (⟨a2_0, a2_1, a2_2⟩ : S46) ) (fun _ hk => hk); have hx17_0 := hcc17 0 _ rfl; (try simp only [show (k46).sz = 3 from rfl, Nat.mul_one, Nat.add_zero] at hx17_0); have hf17_0 := hfr17 0; (try simp only [show (k46).sz = 3 from rfl, Nat.mul_one, Nat.add_zero] at hf17_0); have hx17_1 := hcc17 1 _ rfl; (try simp only [show (k46).sz = 3 from rfl, Nat.mul_one, Nat.add_zero] at hx17_1); have hf17_1 := hfr17 1; (try simp only [show (k46).sz = 3 from rfl, Nat.mul_one, Nat.add_zero] at hf17_1); have hx17_2 := hcc17 2 _ rfl; (try simp only [show (k46).sz = 3 from rfl, Nat.mul_one, Nat.add_zero] at hx17_2); have hf17_2 := hfr17 2; (try simp only [show (k46).sz = 3 from rfl, Nat.mul_one, Nat.add_zero] at hf17_2); clear hcl17 hcc17 hfr17 hM17) | ((with_reducible refine gate_store (t := 46) (p := 15) rfl ?_); refine store_event (t := 46) (p := 15) (v := ?vo_w18) (w1 := (((w14.setCell ⟨go7, (a1 : Int).toNat * 3, none⟩ (.bool a2_0)).setCell ⟨go7, (a1 : Int).toNat * 3 + 1, none⟩ (.string a2_1)).setCell ⟨go7, (a1 : Int).toNat * 3 + 2, none⟩ (.int .i64 a2_2))) ?hg ?ho ?hn ?hr ?_; (case ho => rfl); (case hg => rfl); (case hn => rfl); (case hr => first | (go_simp; done) | (go_simp; rfl)); intro w18 hw; have hg : w14.grownBy w18 (some go7) := (by rw [hw]; exact HP17.2); have hp_ : Kd.R k46 46 w18 w.heap.size (fun k_ => k_ ≠ gb325) (.slice (some ⟨go7, 0, none⟩) y327.length co7) y330 := (by rw [hw, Ny330.out]; exact HP17.1); clear HP17; replace BK324 := am (blk_grown (g := gb324) (o := .cells #[.int .u64 a0_0, .int .u64 a0_1, .slice A0_2 l0_2.length c0_2] 30 (0, 0)) (pk BK324.out) hg (Kd.R_ne HO329.out BK324.out (by decide))); replace BK325 := am (blk_grown (g := gb325) (o := .cells #[.bool a2_0, .string a2_1, .int .i64 a2_2] 46 (0, 0)) (pk BK325.out) hg (Kd.R_away HO329.out (fun _ hk => hk))); replace BK326 := am (blk_grown (g := gb326) (o := .cells #[.int .u64 0, .int .u64 0, .slice none 0 0] 30 (0, 0)) (pk BK326.out) hg (Kd.R_ne HO329.out BK326.out (by decide))); replace HO329 := am (hp_); replace HB := am ((by rw [hw]; exact below_set (below_set (below_set (HB.out) GB7.out) GB7.out) GB7.out : Below w.heap.size w w18)); clear hg hw hp_; have hcz19_0 := ce BK324 0; have hcz19_1 := ce BK324 1; have hcz19_2 := ce BK324 2; have hfz19_0 := fz BK324 0; have hfz19_1 := fz BK324 1; have hfz19_2 := fz BK324 2; have hcz20_0 := ce BK326 0; have hcz20_1 := ce BK326 1; have hcz20_2 := ce BK326 2; have hfz20_0 := fz BK326 0; have hfz20_1 := fz BK326 1; have hfz20_2 := fz BK326 2))
 refine bodyPost_ret (results_cell_row rfl _ _ gb326 30 #[.int .u64 a0_0, .int .u64 a0_1, .slice (some ⟨go7, 0, none⟩) y327.length co7] (0, 0) _ rfl (by refine pk ?_; refine blk_put (cs := #[.int .u64 a0_0, .int .u64 a0_1, .slice none 0 0]) ?_ 2 _ rfl; refine pk ?_; refine blk_put (cs := #[.int .u64 a0_0, .int .u64 0, .slice none 0 0]) ?_ 1 _ rfl; refine pk ?_; refine blk_put (cs := #[.int .u64 0, .int .u64 0, .slice none 0 0]) ?_ 0 _ rfl; refine pk ?_; exact BK326.out) Try.underlying30 rfl (by kernel_rfl)) rfl ?_
 exact ⟨_, by first | rfl | (simp [errW_none, errW_some] <;> rfl) | (simp [*, errW_none, errW_some] <;> rfl), by refine pr ?_; exact Kd.R_mono (Kd.R_far (p := ⟨gb326, 2, none⟩) (Kd.R_far (p := ⟨gb326, 1, none⟩) (Kd.R_far (p := ⟨gb326, 0, none⟩) (Kd.R_types HO329.out BK326.out (by decide)) (fun _ hk => hk.2) (.int .u64 a0_0)) (fun _ hk => hk.2) (.int .u64 a0_1)) (fun _ hk => hk.2) (.slice (some ⟨go7, 0, none⟩) y327.length co7)) (fun _ hk => trivial), pb HB⟩
def r12_lay.l0 : Nat → Int → Int → Int → List (S46) → Bool → ByteArray → Int → Option (Int × Int × (List (S46)))
 | 0, _, _, _, _, _, _, _ => none
 | k + 1, x5, x332000, x332001, x332002, x333000, x333001, x333002 => if 0 ≤ x5 then (if x5 < (x332002.length : Int) then (if (rd_T46 x332002 x5).f0 = true then (if (x332002.length : Int) = 0 then (none) else (r12_lay.l0 k (Int.tmod (wrap64 (x5 + 1)) (x332002.length : Int)) x332000 x332001 x332002 x333000 x333001 x333002)) else ((r12_set.f x332000 x332001 x332002 x5 x333000 x333001 x333002).bind fun bt336 => (some (bt336.1, bt336.2.1, bt336.2.2)))) else (none)) else (none)
def r12_lay.f (k : Nat) (a0_0 : Int) (a0_1 : Int) (l0_2 : List (S46)) (a1_0 : Bool) (a1_1 : ByteArray) (a1_2 : Int) : Option (Int × Int × (List (S46))) := (r12_Home.f k a0_0 a0_1 l0_2 a1_1).bind fun t334 => (r12_lay.l0 k t334 a0_0 a0_1 l0_2 a1_0 a1_1 a1_2)
theorem r12_lay.mono_l : ∀ k, (∀ y0 y1 y2 y3 y4 y5 y6, LeO (r12_lay.l0 k y0 y1 y2 y3 y4 y5 y6) (r12_lay.l0 (k + 1) y0 y1 y2 y3 y4 y5 y6))
 | 0 => fun _ _ _ _ _ _ _ r h => by simp [r12_lay.l0] at h
 | k + 1 => by
  have ih0 := r12_lay.mono_l k
  ·intro y0 y1 y2 y3 y4 y5 y6
   unfold r12_lay.l0
   repeat' first
   | (with_reducible exact ih0 _ _ _ _ _ _ _)
   | (with_reducible exact r12_Home.mono _ _ _ _ _)
   | (with_reducible exact LeO.refl _)
   | (with_reducible exact LeO.none _)
   | (with_reducible refine LeO.ite ?_ ?_)
   | (with_reducible refine LeO.bind ?_ (fun _ => ?_))
theorem r12_lay.mono : ∀ a0 a1 a2 a3 a4 a5 k, LeO (r12_lay.f k a0 a1 a2 a3 a4 a5) (r12_lay.f (k + 1) a0 a1 a2 a3 a4 a5) := by
 intro a0 a1 a2 a3 a4 a5 k
 have ih0 := r12_lay.mono_l k
 unfold r12_lay.f
 repeat' first
   | (with_reducible exact ih0 _ _ _ _ _ _ _)
   | (with_reducible exact r12_Home.mono _ _ _ _ _)
   | (with_reducible exact LeO.refl _)
   | (with_reducible exact LeO.none _)
   | (with_reducible refine LeO.ite ?_ ?_)
   | (with_reducible refine LeO.bind ?_ (fun _ => ?_))
set_option maxHeartbeats 8000000 in
set_option maxRecDepth 100000 in
theorem r12_lay.calls (k : Nat) (a0_0 : Int) (a0_1 : Int) (A0_2 : Option Addr) (c0_2 : Nat) (l0_2 : List (S46)) (a1_0 : Bool) (a1_1 : ByteArray) (a1_2 : Int) (r1 : Int) (r2 : Int) (r3 : List (S46)) (w : World) (hr0_2 : Kd.C k46 w A0_2 l0_2.length l0_2) (hc0_2 : l0_2.length ≤ c0_2) (h : r12_lay.f k a0_0 a0_1 l0_2 a1_0 a1_1 a1_2 = some (r1, r2, r3)) :
  Calls Try.prog 35 #[.agg #[.int .u64 a0_0, .int .u64 a0_1, .slice A0_2 l0_2.length c0_2], .agg #[.bool a1_0, .string a1_1, .int .i64 a1_2]] w fun e w' => ∃ v2_ : Value, e = .returned (.agg #[.int .u64 r1, .int .u64 r2, v2_]) ∧ Kd.R k46 46 w' w.heap.size (fun _ => True) v2_ r3 ∧ Below w.heap.size w w' := by
 have hu30 := Try.underlying30
 have hu46 := Try.underlying46
 have HR0_2 := am hr0_2
 have HC0_2 := am hc0_2
 clear hr0_2 hc0_2
 have HB := am (Below.refl w.heap.size w)
 have H : ((r12_Home.f k a0_0 a0_1 l0_2 a1_1).bind fun t334 => (r12_lay.l0 k t334 a0_0 a0_1 l0_2 a1_0 a1_1 a1_2)) = some (r1, r2, r3) := h
 clear h
 replace H := Option.bind_eq_some_iff.mp H
 obtain ⟨t334, A30, H⟩ := H
 replace H : (r12_lay.l0 k t334 a0_0 a0_1 l0_2 a1_0 a1_1 a1_2) = some (r1, r2, r3) := H
 have A3 := am A30
 clear A30
 have H' := am H
 clear H
 go_enter Try.func35, Try.ntmps35
 go_wp2_with (first | ((with_reducible refine gate_dst (N := 2) rfl ?_); refine be 2 #[.int .u64 a0_0, .int .u64 a0_1, .slice A0_2 l0_2.length c0_2] 30 ?_; intro gb331 hg w4 hbox hb; have n0_ := am (below_step (pb HB) hb); have n1_ := am (hbox); have n2_ := am ((pg hg HB : w.heap.size ≤ gb331)); have n3_ := am ((pg hg HB : w.heap.size ≤ gb331)); clear HB; have HB := n0_; have BK331 := n1_; have GW331 := n2_; have GE331 := n3_; clear n0_ n1_ n2_ n3_; clear hb hbox hg) | ((with_reducible refine gate_dst (N := 3) rfl ?_); refine be 3 #[.bool a1_0, .string a1_1, .int .i64 a1_2] 46 ?_; intro gb332 hg w5 hbox hb; have n0_ := am (blk_below (pk BK331.out) hb); have n1_ := am (below_step (pb HB) hb); have n2_ := am (hbox); have n3_ := am ((pg hg HB : w.heap.size ≤ gb332)); have n4_ := am ((pg hg HB : w.heap.size ≤ gb332)); have n5_ := am ((pl hg (pk BK331.out) : gb331 ≠ gb332)); have n6_ := am ((pl' hg (pk BK331.out) : gb332 ≠ gb331)); clear BK331; clear HB; have BK331 := n0_; have HB := n1_; have BK332 := n2_; have GW332 := n3_; have GE332 := n4_; have NB331_332 := n5_; have NB332_331 := n6_; clear n0_ n1_ n2_ n3_ n4_ n5_ n6_; clear hb hbox hg) | ((with_reducible refine gate_dst (N := 4) rfl ?_); refine be 4 #[.int .u64 0, .int .u64 0, .slice none 0 0] 30 ?_; intro gb333 hg w6 hbox hb; have n0_ := am (blk_below (pk BK331.out) hb); have n1_ := am (blk_below (pk BK332.out) hb); have n2_ := am (below_step (pb HB) hb); have n3_ := am (hbox); have n4_ := am ((pg hg HB : w.heap.size ≤ gb333)); have n5_ := am ((pg hg HB : w.heap.size ≤ gb333)); have n6_ := am ((pl hg (pk BK331.out) : gb331 ≠ gb333)); have n7_ := am ((pl' hg (pk BK331.out) : gb333 ≠ gb331)); have n8_ := am ((pl hg (pk BK332.out) : gb332 ≠ gb333)); have n9_ := am ((pl' hg (pk BK332.out) : gb333 ≠ gb332)); clear BK331; clear BK332; clear HB; have BK331 := n0_; have BK332 := n1_; have HB := n2_; have BK333 := n3_; have GW333 := n4_; have GE333 := n5_; have NB331_333 := n6_; have NB333_331 := n7_; have NB332_333 := n8_; have NB333_332 := n9_; clear n0_ n1_ n2_ n3_ n4_ n5_ n6_ n7_ n8_ n9_; clear hb hbox hg; have hnb7 := NB331_332.out; have hnc7 := NB332_331.out; have hnb8 := NB331_333.out; have hnc8 := NB333_331.out; have hcz9_0 := ce BK331 0; have hcz9_1 := ce BK331 1; have hcz9_2 := ce BK331 2; have hfz9_0 := fz BK331 0; have hfz9_1 := fz BK331 1; have hfz9_2 := fz BK331 2; have hnb10 := NB332_333.out; have hnc10 := NB333_332.out; have hcz11_0 := ce BK332 0; have hcz11_1 := ce BK332 1; have hcz11_2 := ce BK332 2; have hfz11_0 := fz BK332 0; have hfz11_1 := fz BK332 1; have hfz11_2 := fz BK332 2) | ((with_reducible refine gate_callee (f := 24) rfl ?_); refine gl (some 9) Try.func24 #[.agg #[.int .u64 a0_0, .int .u64 a0_1, .slice A0_2 l0_2.length c0_2], .string a1_1] ?_; (with_reducible refine (r12_Home.calls k a0_0 a0_1 _ _ l0_2 a1_1 t334 _ ?side1 ?side2 A3.out).mono ?_); (case side1 => repeat (first | exact (Kd.C_below HR0_2.out HB.out) | (with_reducible refine Kd.C_alloc ?_ _) | (with_reducible refine Kd.C_drewN ?_ _) | (with_reducible refine Kd.C_drew ?_))); (case side2 => exact HC0_2.out); rintro e w12 ⟨rfl, hb⟩; refine ⟨_, rfl, ?_⟩; replace BK331 := am (blk_below (pk BK331.out) hb); replace BK332 := am (blk_below (pk BK332.out) hb); replace BK333 := am (blk_below (pk BK333.out) hb); replace HB := am (below_step (pb HB) hb); (try clear hb); (try clear hb2); (try clear hk); (try clear hi)))
 go_loopg [5] k (fun kq v5 w' => ∃ (x5_1 : Int), v5 = .int .i64 x5_1 ∧ Aside0 (r12_lay.l0 kq x5_1 a0_0 a0_1 l0_2 a1_0 a1_1 a1_2 = some (r1, r2, r3)) ∧ Aside0 (kq ≤ k) ∧ Aside0 (w'.heap[gb331]? = some (.cells #[.int .u64 a0_0, .int .u64 a0_1, (.slice A0_2 l0_2.length c0_2)] 30 (0, 0))) ∧ Aside0 (w'.heap[gb332]? = some (.cells #[.bool a1_0, .string a1_1, .int .i64 a1_2] 46 (0, 0))) ∧ Aside0 (w'.heap[gb333]? = some (.cells #[.int .u64 0, .int .u64 0, (.slice none 0 0)] 30 (0, 0))) ∧ Aside0 (Below w.heap.size w w'))
 case atStart => exact ⟨(t334), (by first | rfl | (simp; done) | (simp [*]; done)), H', ⟨Nat.le_refl _⟩, ⟨pk BK331.out⟩, ⟨pk BK332.out⟩, ⟨pk BK333.out⟩, ⟨pb HB⟩⟩
 case round =>
  clear H'
  try clear c1
  try clear c2
  try clear p2
  try clear c3
  try clear c7
  try clear c8
  try clear c10
  try clear hcz11_0 hcz11_1 hcz11_2
  try clear hcz9_0 hcz9_1 hcz9_2
  try clear hfz11_0 hfz11_1 hfz11_2
  try clear hfz9_0 hfz9_1 hfz9_2
  obtain ⟨x5_1, rfl, HA, HK1, BK331, BK332, BK333, HB⟩ := hrel
  cases gk with
  | zero => exact absurd HA.out (by simp [r12_lay.l0])
  | succ k1 =>
   have H := HA.out
   clear HA
   simp only [r12_lay.l0] at H
   by_cases c13 : 0 ≤ x5_1
   ·rw [if_pos c13] at H
    have c13b0 : decide (0 ≤ x5_1) = true := decide_eq_true c13
    clear c13
    by_cases c14 : x5_1 < (l0_2.length : Int)
    ·rw [if_pos c14] at H
     have c14b0 : decide (x5_1 < (l0_2.length : Int)) = true := decide_eq_true c14
     clear c14
     obtain ⟨bq15, hbq15⟩ : ∃ b_ : Bool, b_ = ((rd_T46 l0_2 x5_1).f0) := ⟨_, rfl⟩
     replace H : (if bq15 = true then (if (l0_2.length : Int) = 0 then (none) else (r12_lay.l0 k1 (Int.tmod (wrap64 (x5_1 + 1)) (l0_2.length : Int)) a0_0 a0_1 l0_2 a1_0 a1_1 a1_2)) else ((r12_set.f a0_0 a0_1 l0_2 x5_1 a1_0 a1_1 a1_2).bind fun bt336 => (some (bt336.1, bt336.2.1, bt336.2.2)))) = some (r1, r2, r3) := by rw [← hbq15] at H; exact H
     have Nbq15 := am hbq15
     clear hbq15
     by_cases c16 : bq15 = true
     ·subst c16
      have H1 : (if (l0_2.length : Int) = 0 then (none) else (r12_lay.l0 k1 (Int.tmod (wrap64 (x5_1 + 1)) (l0_2.length : Int)) a0_0 a0_1 l0_2 a1_0 a1_1 a1_2)) = some (r1, r2, r3) := by rw [if_pos rfl] at H; exact H
      clear H
      have H := H1
      clear H1
      by_cases c17 : (l0_2.length : Int) = 0
      ·rw [if_pos c17] at H
       exact absurd H (by simp)
      ·rw [if_neg c17] at H
       have c17b0 : ((l0_2.length : Int) == 0) = false := beq_eq_false_iff_ne.mpr c17
       have c17b1 : ((l0_2.length : Int) != 0) = true := bne_iff_ne.mpr c17
       have c17b2 : ¬ (l0_2 = []) := fun h_ => c17 (by rw [h_]; rfl)
       have H' := am H
       clear H
       have hnb18 := NB331_332.out
       have hnc18 := NB332_331.out
       have hnb19 := NB331_333.out
       have hnc19 := NB333_331.out
       have hcz20_0 := ce BK331 0
       have hcz20_1 := ce BK331 1
       have hcz20_2 := ce BK331 2
       have hfz20_0 := fz BK331 0
       have hfz20_1 := fz BK331 1
       have hfz20_2 := fz BK331 2
       have p335 : 0 ≤ (x5_1 : Int) := of_decide_eq_true (by first | (with_reducible assumption) | assumption)
       have q335 : x5_1 < (l0_2.length : Int) := of_decide_eq_true (by first | (with_reducible assumption) | assumption)
       obtain ⟨ad335, e335, hx335_0, hx335_1, hx335_2⟩ := at_T46 HR0_2.out x5_1 p335 q335
       (try rw [← Nbq15.out] at hx335_0)
       cases e335
       replace hx335_0 := (HB.out.cell (World.block_lt_of_cell? w _ hx335_0)).trans hx335_0
       replace hx335_1 := (HB.out.cell (World.block_lt_of_cell? w _ hx335_1)).trans hx335_1
       replace hx335_2 := (HB.out.cell (World.block_lt_of_cell? w _ hx335_2)).trans hx335_2
       replace p335 := eq_true p335
       replace q335 := eq_true q335
       go_wp2
       go_roundg k1
       case measure => have := HK1.out; omega
       case rel => exact ⟨(Int.tmod (wrap64 (x5_1 + 1)) (l0_2.length : Int)), (by first | rfl | (simp; done) | (simp [*]; done)), H', ⟨by have := HK1.out; omega⟩, ⟨pk BK331.out⟩, ⟨pk BK332.out⟩, ⟨pk BK333.out⟩, ⟨pb HB⟩⟩
     ·replace c16 := Bool.eq_false_iff.mpr c16
      subst c16
      have H1 : ((r12_set.f a0_0 a0_1 l0_2 x5_1 a1_0 a1_1 a1_2).bind fun bt336 => (some (bt336.1, bt336.2.1, bt336.2.2))) = some (r1, r2, r3) := by rw [if_neg (show ¬ (false = true) by decide)] at H; exact H
      clear H
      have H := H1
      clear H1
      replace H := Option.bind_eq_some_iff.mp H
      obtain ⟨⟨t336, t337, t338⟩, A210, H⟩ := H
      replace H : (some (t336, t337, t338)) = some (r1, r2, r3) := H
      have A21 := am A210
      clear A210
      simp only [Option.some.injEq, Prod.mk.injEq] at H
      obtain ⟨rfl, rfl, rfl⟩ := H
      have hnb22 := NB331_332.out
      have hnc22 := NB332_331.out
      have hnb23 := NB331_333.out
      have hnc23 := NB333_331.out
      have hcz24_0 := ce BK331 0
      have hcz24_1 := ce BK331 1
      have hcz24_2 := ce BK331 2
      have hfz24_0 := fz BK331 0
      have hfz24_1 := fz BK331 1
      have hfz24_2 := fz BK331 2
      have p335 : 0 ≤ (x5_1 : Int) := of_decide_eq_true (by first | (with_reducible assumption) | assumption)
      have q335 : x5_1 < (l0_2.length : Int) := of_decide_eq_true (by first | (with_reducible assumption) | assumption)
      obtain ⟨ad335, e335, hx335_0, hx335_1, hx335_2⟩ := at_T46 HR0_2.out x5_1 p335 q335
      (try rw [← Nbq15.out] at hx335_0)
      cases e335
      replace hx335_0 := (HB.out.cell (World.block_lt_of_cell? w _ hx335_0)).trans hx335_0
      replace hx335_1 := (HB.out.cell (World.block_lt_of_cell? w _ hx335_1)).trans hx335_1
      replace hx335_2 := (HB.out.cell (World.block_lt_of_cell? w _ hx335_2)).trans hx335_2
      replace p335 := eq_true p335
      replace q335 := eq_true q335
      have hnb25 := NB332_333.out
      have hnc25 := NB333_332.out
      have hcz26_0 := ce BK332 0
      have hcz26_1 := ce BK332 1
      have hcz26_2 := ce BK332 2
      have hfz26_0 := fz BK332 0
      have hfz26_1 := fz BK332 1
      have hfz26_2 := fz BK332 2
      go_wp2_with (first | ((with_reducible refine gate_callee (f := 34) rfl ?_); refine gl (some 25) Try.func34 #[.agg #[.int .u64 a0_0, .int .u64 a0_1, .slice (some ad335) l0_2.length c0_2], .int .i64 x5_1, .agg #[.bool a1_0, .string a1_1, .int .i64 a1_2]] ?_; (with_reducible refine (r12_set.calls a0_0 a0_1 _ _ l0_2 x5_1 a1_0 a1_1 a1_2 t336 t337 t338 _ ?side1 ?side2 A21.out).mono ?_); (case side1 => repeat (first | exact (Kd.C_below HR0_2.out HB.out) | (with_reducible refine Kd.C_alloc ?_ _) | (with_reducible refine Kd.C_drewN ?_ _) | (with_reducible refine Kd.C_drew ?_))); (case side2 => exact HC0_2.out); rintro e w27 ⟨v339, rfl, ho0, hb⟩; refine ⟨_, rfl, ?_⟩; have HO340 := am (Kd.R_lower (Kd.R_newB ho0 (g := gb332) (o := .cells #[.bool a1_0, .string a1_1, .int .i64 a1_2] 46 (0, 0)) (pk BK332.out)) (below_size (pb HB))); replace BK331 := am (blk_below (pk BK331.out) hb); replace BK332 := am (blk_below (pk BK332.out) hb); replace BK333 := am (blk_below (pk BK333.out) hb); replace HB := am (below_step (pb HB) hb); (try clear hb); (try clear hb2); (try clear hk); (try clear hi); (try clear ho0); have hcz28_0 := ce BK333 0; have hcz28_1 := ce BK333 1; have hcz28_2 := ce BK333 2; have hfz28_0 := fz BK333 0; have hfz28_1 := fz BK333 1; have hfz28_2 := fz BK333 2; obtain ⟨Ao29, co29, eo29⟩ := Kd.R_slice HO340.out; subst eo29))
      refine bodyPost_ret (results_cell_row rfl _ _ gb333 30 #[.int .u64 t336, .int .u64 t337, .slice Ao29 t338.length co29] (0, 0) _ rfl (by refine pk ?_; refine blk_put (cs := #[.int .u64 t336, .int .u64 t337, .slice none 0 0]) ?_ 2 _ rfl; refine pk ?_; refine blk_put (cs := #[.int .u64 t336, .int .u64 0, .slice none 0 0]) ?_ 1 _ rfl; refine pk ?_; refine blk_put (cs := #[.int .u64 0, .int .u64 0, .slice none 0 0]) ?_ 0 _ rfl; refine pk ?_; exact BK333.out) Try.underlying30 rfl (by kernel_rfl)) rfl ?_
      exact ⟨_, by first | rfl | (simp [errW_none, errW_some] <;> rfl) | (simp [*, errW_none, errW_some] <;> rfl), by refine pr ?_; exact Kd.R_mono (Kd.R_far (p := ⟨gb333, 2, none⟩) (Kd.R_far (p := ⟨gb333, 1, none⟩) (Kd.R_far (p := ⟨gb333, 0, none⟩) (Kd.R_types HO340.out BK333.out (by decide)) (fun _ hk => hk.2) (.int .u64 t336)) (fun _ hk => hk.2) (.int .u64 t337)) (fun _ hk => hk.2) (.slice Ao29 t338.length co29)) (fun _ hk => trivial), pb HB⟩
    ·rw [if_neg c14] at H
     exact absurd H (by simp)
   ·rw [if_neg c13] at H
    exact absurd H (by simp)
end Go.Proofs.Ytojpmjkphgjmgaa.H
