import Derived.Test.YtojpmjkphgjmgaaHx0
import Derived.Test.YtojpmjkphgjmgaaHx12
namespace Go.Proofs.Ytojpmjkphgjmgaa.H
open Go.RowKit Go.Proofs.YtojpmjkphgjmgaaW.PrintWords Go.Proofs.YtojpmjkphgjmgaaW.PrintLast Go.Proofs.YtojpmjkphgjmgaaW.PrintMore Go.Proofs.YtojpmjkphgjmgaaW.Sq
attribute [local go_sem] max2_int min2_int max_two min_two max_three min_three max_four min_four
set_option linter.unusedVariables false
set_option linter.unusedSimpArgs false

mutual
def r05_Sum.l0 : Nat → ByteArray → Int → Int → Int → Int → Int → Option (Int)
 | 0, _, _, _, _, _, _ => none
 | k + 1, x1, x6, x297000, x297001, x297002, x297003 => if x6 ≤ (x1.size : Int) then (r05_Sum.l1 k x1 x6 0 0 x297000 x297001 x297002 x297003) else ((r05_turns.f k x297000 x297001 (Go.bits .xor .u64 x297002 255) x297003 4).bind fun bt297 => (some (Go.bits .xor .u64 (Go.bits .xor .u64 (Go.bits .xor .u64 bt297.1 bt297.2.1) bt297.2.2.1) bt297.2.2.2)))
def r05_Sum.l1 : Nat → ByteArray → Int → Int → Int → Int → Int → Int → Int → Option (Int)
 | 0, _, _, _, _, _, _, _, _ => none
 | k + 1, x1, x6, x7, x8, x297000, x297001, x297002, x297003 => if x8 < 8 then (if (wrap64 (x6 + x8)) < (x1.size : Int) then (if 0 ≤ (wrap64 (x6 + x8)) then (if x8 = 7 then (if (wrap64 (x6 + 8)) > (x1.size : Int) then (if 0 ≤ (IntKind.u64.wrap (wrap64 (8 * x8))) then (r05_Sum.l1 k x1 x6 (Go.bits .or .u64 x7 (shl .u64 ((x1.size : Int) % 256) (IntKind.u64.wrap (wrap64 (8 * x8))))) (wrap64 (x8 + 1)) x297000 x297001 x297002 x297003) else (none)) else (if 0 ≤ (IntKind.u64.wrap (wrap64 (8 * x8))) then (r05_Sum.l1 k x1 x6 (Go.bits .or .u64 x7 (shl .u64 (IntKind.u64.wrap (bt x1 (wrap64 (x6 + x8)))) (IntKind.u64.wrap (wrap64 (8 * x8))))) (wrap64 (x8 + 1)) x297000 x297001 x297002 x297003) else (none))) else (if 0 ≤ (IntKind.u64.wrap (wrap64 (8 * x8))) then (r05_Sum.l1 k x1 x6 (Go.bits .or .u64 x7 (shl .u64 (IntKind.u64.wrap (bt x1 (wrap64 (x6 + x8)))) (IntKind.u64.wrap (wrap64 (8 * x8))))) (wrap64 (x8 + 1)) x297000 x297001 x297002 x297003) else (none))) else (none)) else (if x8 = 7 then (if (wrap64 (x6 + 8)) > (x1.size : Int) then (if 0 ≤ (IntKind.u64.wrap (wrap64 (8 * x8))) then (r05_Sum.l1 k x1 x6 (Go.bits .or .u64 x7 (shl .u64 ((x1.size : Int) % 256) (IntKind.u64.wrap (wrap64 (8 * x8))))) (wrap64 (x8 + 1)) x297000 x297001 x297002 x297003) else (none)) else (if 0 ≤ (IntKind.u64.wrap (wrap64 (8 * x8))) then (r05_Sum.l1 k x1 x6 (Go.bits .or .u64 x7 (shl .u64 0 (IntKind.u64.wrap (wrap64 (8 * x8))))) (wrap64 (x8 + 1)) x297000 x297001 x297002 x297003) else (none))) else (if 0 ≤ (IntKind.u64.wrap (wrap64 (8 * x8))) then (r05_Sum.l1 k x1 x6 (Go.bits .or .u64 x7 (shl .u64 0 (IntKind.u64.wrap (wrap64 (8 * x8))))) (wrap64 (x8 + 1)) x297000 x297001 x297002 x297003) else (none)))) else ((r05_turns.f k x297000 x297001 x297002 (Go.bits .xor .u64 x297003 x7) 2).bind fun bt301 => (r05_Sum.l0 k x1 (wrap64 (x6 + 8)) (Go.bits .xor .u64 bt301.1 x7) bt301.2.1 bt301.2.2.1 bt301.2.2.2))
end
def r05_Sum.f (k : Nat) (a0_0 : Int) (a0_1 : Int) (a1 : ByteArray) : Option (Int) := r05_Sum.l0 k a1 0 (Go.bits .xor .u64 a0_0 8317987319222330741) (Go.bits .xor .u64 a0_1 7237128888997146477) (Go.bits .xor .u64 a0_0 7816392313619706465) (Go.bits .xor .u64 a0_1 8387220255154660723)
theorem r05_Sum.mono_l : ∀ k, (∀ y0 y1 y2 y3 y4 y5, LeO (r05_Sum.l0 k y0 y1 y2 y3 y4 y5) (r05_Sum.l0 (k + 1) y0 y1 y2 y3 y4 y5)) ∧ (∀ y0 y1 y2 y3 y4 y5 y6 y7, LeO (r05_Sum.l1 k y0 y1 y2 y3 y4 y5 y6 y7) (r05_Sum.l1 (k + 1) y0 y1 y2 y3 y4 y5 y6 y7))
 | 0 => ⟨fun _ _ _ _ _ _ r h => by simp [r05_Sum.l0] at h, fun _ _ _ _ _ _ _ _ r h => by simp [r05_Sum.l1] at h⟩
 | k + 1 => by
  obtain ⟨ih0, ih1⟩ := r05_Sum.mono_l k
  refine ⟨?_, ?_⟩
  ·intro y0 y1 y2 y3 y4 y5
   unfold r05_Sum.l0
   repeat' first
   | (with_reducible exact ih0 _ _ _ _ _ _)
   | (with_reducible exact ih1 _ _ _ _ _ _ _ _)
   | (with_reducible exact r05_turns.mono _ _ _ _ _ _)
   | (with_reducible exact LeO.refl _)
   | (with_reducible exact LeO.none _)
   | (with_reducible refine LeO.ite ?_ ?_)
   | (with_reducible refine LeO.bind ?_ (fun _ => ?_))
  ·intro y0 y1 y2 y3 y4 y5 y6 y7
   unfold r05_Sum.l1
   repeat' first
   | (with_reducible exact ih0 _ _ _ _ _ _)
   | (with_reducible exact ih1 _ _ _ _ _ _ _ _)
   | (with_reducible exact r05_turns.mono _ _ _ _ _ _)
   | (with_reducible exact LeO.refl _)
   | (with_reducible exact LeO.none _)
   | (with_reducible refine LeO.ite ?_ ?_)
   | (with_reducible refine LeO.bind ?_ (fun _ => ?_))
theorem r05_Sum.mono : ∀ a0 a1 a2 k, LeO (r05_Sum.f k a0 a1 a2) (r05_Sum.f (k + 1) a0 a1 a2) := by
 intro a0 a1 a2 k
 obtain ⟨ih0, ih1⟩ := r05_Sum.mono_l k
 unfold r05_Sum.f
 repeat' first
   | (with_reducible exact ih0 _ _ _ _ _ _)
   | (with_reducible exact ih1 _ _ _ _ _ _ _ _)
   | (with_reducible exact r05_turns.mono _ _ _ _ _ _)
   | (with_reducible exact LeO.refl _)
   | (with_reducible exact LeO.none _)
   | (with_reducible refine LeO.ite ?_ ?_)
   | (with_reducible refine LeO.bind ?_ (fun _ => ?_))
set_option maxHeartbeats 8000000 in
set_option maxRecDepth 100000 in
theorem r05_Sum.calls (k : Nat) (a0_0 : Int) (a0_1 : Int) (a1 : ByteArray) (r : Int) (w : World) (h : r05_Sum.f k a0_0 a0_1 a1 = some r) :
  Calls Try.prog 36 #[.agg #[.int .u64 a0_0, .int .u64 a0_1], .string a1] w fun e w' => e = .returned (.int .u64 r) ∧ Below w.heap.size w w' := by
 have hu24 := Try.underlying24
 have hu76 := Try.underlying76
 have HB := am (Below.refl w.heap.size w)
 have H : (r05_Sum.l0 k a1 0 (Go.bits .xor .u64 a0_0 8317987319222330741) (Go.bits .xor .u64 a0_1 7237128888997146477) (Go.bits .xor .u64 a0_0 7816392313619706465) (Go.bits .xor .u64 a0_1 8387220255154660723)) = some r := h
 clear h
 have H' := am H
 clear H
 go_enter Try.func36, Try.ntmps36
 go_wp2_with (first | ((with_reducible refine gate_dst (N := 2) rfl ?_); (try (refine gate_guard (by rfl) ?_; dsimp only)); refine be 2 #[.int .u64 a0_0, .int .u64 a0_1] 24 ?_; intro gb295 hg w3 hbox hb; have n0_ := am (below_step (pb HB) hb); have n1_ := am (hbox); have n2_ := am ((pg hg HB : w.heap.size ≤ gb295)); have n3_ := am ((pg hg HB : w.heap.size ≤ gb295)); clear HB; have HB := n0_; have BK295 := n1_; have GW295 := n2_; have GE295 := n3_; clear n0_ n1_ n2_ n3_; clear hb hbox hg; have hcz4_0 := ce BK295 0; have hcz4_1 := ce BK295 1; have hfz4_0 := fz BK295 0; have hfz4_1 := fz BK295 1) | ((with_reducible refine gate_dst (N := 5) rfl ?_); (try (refine gate_guard (by rfl) ?_; dsimp only)); refine be 5 #[.int .u64 0, .int .u64 0, .int .u64 0, .int .u64 0] 76 ?_; intro gb296 hg w5 hbox hb; have n0_ := am (blk_below (pk BK295.out) hb); have n1_ := am (below_step (pb HB) hb); have n2_ := am (hbox); have n3_ := am ((pg hg HB : w.heap.size ≤ gb296)); have n4_ := am ((pg hg HB : w.heap.size ≤ gb296)); have n5_ := am ((pl hg (pk BK295.out) : gb295 ≠ gb296)); have n6_ := am ((pl' hg (pk BK295.out) : gb296 ≠ gb295)); clear BK295; clear HB; have BK295 := n0_; have HB := n1_; have BK296 := n2_; have GW296 := n3_; have GE296 := n4_; have NB295_296 := n5_; have NB296_295 := n6_; clear n0_ n1_ n2_ n3_ n4_ n5_ n6_; clear hb hbox hg; have hnb6 := NB296_295.out; have hnc6 := NB295_296.out; have hcz7_0 := ce BK296 0; have hcz7_1 := ce BK296 1; have hcz7_2 := ce BK296 2; have hcz7_3 := ce BK296 3; have hfz7_0 := fz BK296 0; have hfz7_1 := fz BK296 1; have hfz7_2 := fz BK296 2; have hfz7_3 := fz BK296 3))
 go_loopg [6] k (fun kq v6 w' => ∃ (x6_1 : Int) (x297000_1 : Int) (x297001_1 : Int) (x297002_1 : Int) (x297003_1 : Int), v6 = .int .i64 x6_1 ∧ Aside0 (r05_Sum.l0 kq a1 x6_1 x297000_1 x297001_1 x297002_1 x297003_1 = some r) ∧ Aside0 (kq ≤ k) ∧ Aside0 (w'.heap[gb295]? = some (.cells #[.int .u64 a0_0, .int .u64 a0_1] 24 (0, 0))) ∧ Aside0 (w'.heap[gb296]? = some (.cells #[.int .u64 x297000_1, .int .u64 x297001_1, .int .u64 x297002_1, .int .u64 x297003_1] 76 (0, 0))) ∧ Aside0 (Below w.heap.size w w'))
 case atStart => exact ⟨(0), (Go.bits .xor .u64 a0_0 8317987319222330741), (Go.bits .xor .u64 a0_1 7237128888997146477), (Go.bits .xor .u64 a0_0 7816392313619706465), (Go.bits .xor .u64 a0_1 8387220255154660723), (by first | rfl | (simp; done) | (simp [*]; done)), H', ⟨Nat.le_refl _⟩, ⟨by refine pk ?_; refine blk_far ?_ NB295_296.out _; refine pk ?_; refine blk_far ?_ NB295_296.out _; refine pk ?_; refine blk_far ?_ NB295_296.out _; refine pk ?_; refine blk_far ?_ NB295_296.out _; refine pk ?_; exact BK295.out⟩, ⟨by refine pk ?_; refine blk_put (cs := #[.int .u64 (Go.bits .xor .u64 a0_0 8317987319222330741), .int .u64 (Go.bits .xor .u64 a0_1 7237128888997146477), .int .u64 (Go.bits .xor .u64 a0_0 7816392313619706465), .int .u64 0]) ?_ 3 _ rfl; refine pk ?_; refine blk_put (cs := #[.int .u64 (Go.bits .xor .u64 a0_0 8317987319222330741), .int .u64 (Go.bits .xor .u64 a0_1 7237128888997146477), .int .u64 0, .int .u64 0]) ?_ 2 _ rfl; refine pk ?_; refine blk_put (cs := #[.int .u64 (Go.bits .xor .u64 a0_0 8317987319222330741), .int .u64 0, .int .u64 0, .int .u64 0]) ?_ 1 _ rfl; refine pk ?_; refine blk_put (cs := #[.int .u64 0, .int .u64 0, .int .u64 0, .int .u64 0]) ?_ 0 _ rfl; refine pk ?_; exact BK296.out⟩, ⟨pb HB⟩⟩
 case round =>
  clear H'
  try clear p2
  try clear c3
  try clear c6
  try clear hcz4_0 hcz4_1
  try clear hcz7_0 hcz7_1 hcz7_2 hcz7_3
  try clear hfz4_0 hfz4_1
  try clear hfz7_0 hfz7_1 hfz7_2 hfz7_3
  obtain ⟨x6_1, x297000_1, x297001_1, x297002_1, x297003_1, rfl, HA, HK1, BK295, BK296, HB⟩ := hrel
  cases gk with
  | zero => exact absurd HA.out (by simp [r05_Sum.l0])
  | succ k1 =>
   have H := HA.out
   clear HA
   simp only [r05_Sum.l0] at H
   by_cases c8 : x6_1 ≤ (a1.size : Int)
   ·rw [if_pos c8] at H
    have c8b0 : decide (x6_1 ≤ (a1.size : Int)) = true := decide_eq_true c8
    clear c8
    have H' := am H
    clear H
    go_wp2
    go_loopg [7, 8] k1 (fun kq v7 v8 w' => ∃ (x7_2 : Int) (x8_2 : Int), v7 = .int .u64 x7_2 ∧ v8 = .int .i64 x8_2 ∧ Aside0 (r05_Sum.l1 kq a1 x6_1 x7_2 x8_2 x297000_1 x297001_1 x297002_1 x297003_1 = some r) ∧ Aside0 (kq ≤ k1) ∧ Aside0 (w'.heap[gb295]? = some (.cells #[.int .u64 a0_0, .int .u64 a0_1] 24 (0, 0))) ∧ Aside0 (w'.heap[gb296]? = some (.cells #[.int .u64 x297000_1, .int .u64 x297001_1, .int .u64 x297002_1, .int .u64 x297003_1] 76 (0, 0))) ∧ Aside0 (Below w.heap.size w w'))
    case atStart => exact ⟨(0), (0), (by first | rfl | (simp; done) | (simp [*]; done)), (by first | rfl | (simp; done) | (simp [*]; done)), H', ⟨Nat.le_refl _⟩, ⟨pk BK295.out⟩, ⟨pk BK296.out⟩, ⟨pb HB⟩⟩
    case round =>
     clear H'
     try clear p2
     try clear c3
     try clear c6
     try clear c8
     try clear c8b0
     try clear hcz4_0 hcz4_1
     try clear hcz7_0 hcz7_1 hcz7_2 hcz7_3
     try clear hfz4_0 hfz4_1
     try clear hfz7_0 hfz7_1 hfz7_2 hfz7_3
     try clear p2
     obtain ⟨x7_2, x8_2, rfl, rfl, HA, HK2, BK295, BK296, HB⟩ := hrel
     cases gk with
     | zero => exact absurd HA.out (by simp [r05_Sum.l1])
     | succ k2 =>
      have H := HA.out
      clear HA
      simp only [r05_Sum.l1] at H
      by_cases c9 : x8_2 < 8
      ·rw [if_pos c9] at H
       have c9b0 : decide (x8_2 < 8) = true := decide_eq_true c9
       clear c9
       by_cases c10 : (wrap64 (x6_1 + x8_2)) < (a1.size : Int)
       ·rw [if_pos c10] at H
        have c10b0 : decide ((wrap64 (x6_1 + x8_2)) < (a1.size : Int)) = true := decide_eq_true c10
        clear c10
        obtain ⟨ji11, hji11⟩ : ∃ j_ : Int, (wrap64 (x6_1 + x8_2)) = j_ := ⟨_, rfl⟩
        replace H : (if 0 ≤ (ji11) then (if x8_2 = 7 then (if (wrap64 (x6_1 + 8)) > (a1.size : Int) then (if 0 ≤ (IntKind.u64.wrap (wrap64 (8 * x8_2))) then (r05_Sum.l1 k2 a1 x6_1 (Go.bits .or .u64 x7_2 (shl .u64 ((a1.size : Int) % 256) (IntKind.u64.wrap (wrap64 (8 * x8_2))))) (wrap64 (x8_2 + 1)) x297000_1 x297001_1 x297002_1 x297003_1) else (none)) else (if 0 ≤ (IntKind.u64.wrap (wrap64 (8 * x8_2))) then (r05_Sum.l1 k2 a1 x6_1 (Go.bits .or .u64 x7_2 (shl .u64 (IntKind.u64.wrap (bt a1 (ji11))) (IntKind.u64.wrap (wrap64 (8 * x8_2))))) (wrap64 (x8_2 + 1)) x297000_1 x297001_1 x297002_1 x297003_1) else (none))) else (if 0 ≤ (IntKind.u64.wrap (wrap64 (8 * x8_2))) then (r05_Sum.l1 k2 a1 x6_1 (Go.bits .or .u64 x7_2 (shl .u64 (IntKind.u64.wrap (bt a1 (ji11))) (IntKind.u64.wrap (wrap64 (8 * x8_2))))) (wrap64 (x8_2 + 1)) x297000_1 x297001_1 x297002_1 x297003_1) else (none))) else (none)) = some r := by first | (rw [hji11] at H; exact H) | (simp only [hji11] at H ⊢; exact H)
        (try rw [hji11] at c10b0)
        have hji11w : (IntKind.i64.wrap (x6_1 + x8_2)) = ji11 := (i64_w _).trans hji11
        by_cases c12 : 0 ≤ (ji11)
        ·rw [if_pos c12] at H
         have c12b0 : decide (0 ≤ (ji11)) = true := decide_eq_true c12
         clear c12
         by_cases c14 : x8_2 = 7
         ·rw [if_pos c14] at H
          have c14b0 : (x8_2 == 7) = true := beq_iff_eq.mpr c14
          have c14b1 : (x8_2 != 7) = false := bne_eq_false_iff_eq.mpr c14
          clear c14
          by_cases c15 : (wrap64 (x6_1 + 8)) > (a1.size : Int)
          ·rw [if_pos c15] at H
           have c15b0 : decide ((a1.size : Int) < (wrap64 (x6_1 + 8))) = true := decide_eq_true c15
           clear c15
           obtain ⟨ji16, hji16⟩ : ∃ j_ : Int, (IntKind.u64.wrap (wrap64 (8 * x8_2))) = j_ := ⟨_, rfl⟩
           replace H : (if 0 ≤ (ji16) then (r05_Sum.l1 k2 a1 x6_1 (Go.bits .or .u64 x7_2 (shl .u64 ((a1.size : Int) % 256) (ji16))) (wrap64 (x8_2 + 1)) x297000_1 x297001_1 x297002_1 x297003_1) else (none)) = some r := by first | (rw [hji16] at H; exact H) | (simp only [hji16] at H ⊢; exact H)
           by_cases c17 : 0 ≤ (ji16)
           ·rw [if_pos c17] at H
            have c17b0 := eq_true c17
            have c17b1 : decide (0 ≤ (ji16)) = true := decide_eq_true c17
            clear c17
            obtain ⟨ji18, hji18⟩ : ∃ j_ : Int, (shl .u64 ((a1.size : Int) % 256) (ji16)) = j_ := ⟨_, rfl⟩
            replace H : (r05_Sum.l1 k2 a1 x6_1 (Go.bits .or .u64 x7_2 (ji18)) (wrap64 (x8_2 + 1)) x297000_1 x297001_1 x297002_1 x297003_1) = some r := by first | (rw [hji18] at H; exact H) | (simp only [hji18] at H ⊢; exact H)
            have hji18_ : (IntKind.u64.wrap (((a1.size : Int) % 256) * 2 ^ min (ji16).toNat 64)) = ji18 := hji18
            have hji18z : (ji16) ≤ 64 → (IntKind.u64.wrap (((a1.size : Int) % 256) * 2 ^ (ji16).toNat)) = ji18 := shl_small hji18
            have H' := am H
            clear H
            have p13 : 0 ≤ ((ji11) : Int) := of_decide_eq_true (by first | (with_reducible assumption) | assumption)
            have q13 : (ji11) < (a1.size : Int) := of_decide_eq_true (by first | (with_reducible assumption) | assumption)
            have hx13 := bt_at a1 (ji11)
            replace p13 := eq_true p13
            replace q13 := eq_true q13
            go_wp2
            go_roundg k2
            case measure => have := HK1.out; have := HK2.out; omega
            case rel => exact ⟨(Go.bits .or .u64 x7_2 (ji18)), (wrap64 (x8_2 + 1)), (by first | rfl | (simp; done) | (simp only [← hji18] <;> (first | rfl | (simp; done) | (simp [show ∀ j_ : Int, shl .u64 0 j_ = 0 from fun j_ => by unfold shl; rw [Int.zero_mul]; decide]; done))) | (simp [*]; done)), (by first | rfl | (simp; done) | (simp [*]; done)), H', ⟨by have := HK1.out; have := HK2.out; omega⟩, ⟨pk BK295.out⟩, ⟨pk BK296.out⟩, ⟨pb HB⟩⟩
           ·rw [if_neg c17] at H
            exact absurd H (by simp)
          ·rw [if_neg c15] at H
           have c15b0 : decide ((a1.size : Int) < (wrap64 (x6_1 + 8))) = false := decide_eq_false c15
           clear c15
           obtain ⟨ji19, hji19⟩ : ∃ j_ : Int, (IntKind.u64.wrap (wrap64 (8 * x8_2))) = j_ := ⟨_, rfl⟩
           replace H : (if 0 ≤ (ji19) then (r05_Sum.l1 k2 a1 x6_1 (Go.bits .or .u64 x7_2 (shl .u64 (IntKind.u64.wrap (bt a1 (ji11))) (ji19))) (wrap64 (x8_2 + 1)) x297000_1 x297001_1 x297002_1 x297003_1) else (none)) = some r := by first | (rw [hji19] at H; exact H) | (simp only [hji19] at H ⊢; exact H)
           by_cases c20 : 0 ≤ (ji19)
           ·rw [if_pos c20] at H
            have c20b0 := eq_true c20
            have c20b1 : decide (0 ≤ (ji19)) = true := decide_eq_true c20
            clear c20
            obtain ⟨ji21, hji21⟩ : ∃ j_ : Int, (shl .u64 (IntKind.u64.wrap (bt a1 (ji11))) (ji19)) = j_ := ⟨_, rfl⟩
            replace H : (r05_Sum.l1 k2 a1 x6_1 (Go.bits .or .u64 x7_2 (ji21)) (wrap64 (x8_2 + 1)) x297000_1 x297001_1 x297002_1 x297003_1) = some r := by first | (rw [hji21] at H; exact H) | (simp only [hji21] at H ⊢; exact H)
            have hji21_ : (IntKind.u64.wrap ((IntKind.u64.wrap (bt a1 (ji11))) * 2 ^ min (ji19).toNat 64)) = ji21 := hji21
            have hji21z : (ji19) ≤ 64 → (IntKind.u64.wrap ((IntKind.u64.wrap (bt a1 (ji11))) * 2 ^ (ji19).toNat)) = ji21 := shl_small hji21
            have H' := am H
            clear H
            have p13 : 0 ≤ ((ji11) : Int) := of_decide_eq_true (by first | (with_reducible assumption) | assumption)
            have q13 : (ji11) < (a1.size : Int) := of_decide_eq_true (by first | (with_reducible assumption) | assumption)
            have hx13 := bt_at a1 (ji11)
            replace p13 := eq_true p13
            replace q13 := eq_true q13
            go_wp2
            go_roundg k2
            case measure => have := HK1.out; have := HK2.out; omega
            case rel => exact ⟨(Go.bits .or .u64 x7_2 (ji21)), (wrap64 (x8_2 + 1)), (by first | rfl | (simp; done) | (simp only [← hji21] <;> (first | rfl | (simp; done) | (simp [show ∀ j_ : Int, shl .u64 0 j_ = 0 from fun j_ => by unfold shl; rw [Int.zero_mul]; decide]; done))) | (simp [*]; done)), (by first | rfl | (simp; done) | (simp [*]; done)), H', ⟨by have := HK1.out; have := HK2.out; omega⟩, ⟨pk BK295.out⟩, ⟨pk BK296.out⟩, ⟨pb HB⟩⟩
           ·rw [if_neg c20] at H
            exact absurd H (by simp)
         ·rw [if_neg c14] at H
          have c14b0 : (x8_2 == 7) = false := beq_eq_false_iff_ne.mpr c14
          have c14b1 : (x8_2 != 7) = true := bne_iff_ne.mpr c14
          obtain ⟨ji22, hji22⟩ : ∃ j_ : Int, (IntKind.u64.wrap (wrap64 (8 * x8_2))) = j_ := ⟨_, rfl⟩
          replace H : (if 0 ≤ (ji22) then (r05_Sum.l1 k2 a1 x6_1 (Go.bits .or .u64 x7_2 (shl .u64 (IntKind.u64.wrap (bt a1 (ji11))) (ji22))) (wrap64 (x8_2 + 1)) x297000_1 x297001_1 x297002_1 x297003_1) else (none)) = some r := by first | (rw [hji22] at H; exact H) | (simp only [hji22] at H ⊢; exact H)
          by_cases c23 : 0 ≤ (ji22)
          ·rw [if_pos c23] at H
           have c23b0 := eq_true c23
           have c23b1 : decide (0 ≤ (ji22)) = true := decide_eq_true c23
           clear c23
           obtain ⟨ji24, hji24⟩ : ∃ j_ : Int, (shl .u64 (IntKind.u64.wrap (bt a1 (ji11))) (ji22)) = j_ := ⟨_, rfl⟩
           replace H : (r05_Sum.l1 k2 a1 x6_1 (Go.bits .or .u64 x7_2 (ji24)) (wrap64 (x8_2 + 1)) x297000_1 x297001_1 x297002_1 x297003_1) = some r := by first | (rw [hji24] at H; exact H) | (simp only [hji24] at H ⊢; exact H)
           have hji24_ : (IntKind.u64.wrap ((IntKind.u64.wrap (bt a1 (ji11))) * 2 ^ min (ji22).toNat 64)) = ji24 := hji24
           have hji24z : (ji22) ≤ 64 → (IntKind.u64.wrap ((IntKind.u64.wrap (bt a1 (ji11))) * 2 ^ (ji22).toNat)) = ji24 := shl_small hji24
           have H' := am H
           clear H
           have p13 : 0 ≤ ((ji11) : Int) := of_decide_eq_true (by first | (with_reducible assumption) | assumption)
           have q13 : (ji11) < (a1.size : Int) := of_decide_eq_true (by first | (with_reducible assumption) | assumption)
           have hx13 := bt_at a1 (ji11)
           replace p13 := eq_true p13
           replace q13 := eq_true q13
           go_wp2
           go_roundg k2
           case measure => have := HK1.out; have := HK2.out; omega
           case rel => exact ⟨(Go.bits .or .u64 x7_2 (ji24)), (wrap64 (x8_2 + 1)), (by first | rfl | (simp; done) | (simp only [← hji24] <;> (first | rfl | (simp; done) | (simp [show ∀ j_ : Int, shl .u64 0 j_ = 0 from fun j_ => by unfold shl; rw [Int.zero_mul]; decide]; done))) | (simp [*]; done)), (by first | rfl | (simp; done) | (simp [*]; done)), H', ⟨by have := HK1.out; have := HK2.out; omega⟩, ⟨pk BK295.out⟩, ⟨pk BK296.out⟩, ⟨pb HB⟩⟩
          ·rw [if_neg c23] at H
           exact absurd H (by simp)
        ·rw [if_neg c12] at H
         exact absurd H (by simp)
       ·rw [if_neg c10] at H
        have c10b0 : decide ((wrap64 (x6_1 + x8_2)) < (a1.size : Int)) = false := decide_eq_false c10
        clear c10
        by_cases c25 : x8_2 = 7
        ·rw [if_pos c25] at H
         have c25b0 : (x8_2 == 7) = true := beq_iff_eq.mpr c25
         have c25b1 : (x8_2 != 7) = false := bne_eq_false_iff_eq.mpr c25
         clear c25
         by_cases c26 : (wrap64 (x6_1 + 8)) > (a1.size : Int)
         ·rw [if_pos c26] at H
          have c26b0 : decide ((a1.size : Int) < (wrap64 (x6_1 + 8))) = true := decide_eq_true c26
          clear c26
          obtain ⟨ji27, hji27⟩ : ∃ j_ : Int, (IntKind.u64.wrap (wrap64 (8 * x8_2))) = j_ := ⟨_, rfl⟩
          replace H : (if 0 ≤ (ji27) then (r05_Sum.l1 k2 a1 x6_1 (Go.bits .or .u64 x7_2 (shl .u64 ((a1.size : Int) % 256) (ji27))) (wrap64 (x8_2 + 1)) x297000_1 x297001_1 x297002_1 x297003_1) else (none)) = some r := by first | (rw [hji27] at H; exact H) | (simp only [hji27] at H ⊢; exact H)
          by_cases c28 : 0 ≤ (ji27)
          ·rw [if_pos c28] at H
           have c28b0 := eq_true c28
           have c28b1 : decide (0 ≤ (ji27)) = true := decide_eq_true c28
           clear c28
           obtain ⟨ji29, hji29⟩ : ∃ j_ : Int, (shl .u64 ((a1.size : Int) % 256) (ji27)) = j_ := ⟨_, rfl⟩
           replace H : (r05_Sum.l1 k2 a1 x6_1 (Go.bits .or .u64 x7_2 (ji29)) (wrap64 (x8_2 + 1)) x297000_1 x297001_1 x297002_1 x297003_1) = some r := by first | (rw [hji29] at H; exact H) | (simp only [hji29] at H ⊢; exact H)
           have hji29_ : (IntKind.u64.wrap (((a1.size : Int) % 256) * 2 ^ min (ji27).toNat 64)) = ji29 := hji29
           have hji29z : (ji27) ≤ 64 → (IntKind.u64.wrap (((a1.size : Int) % 256) * 2 ^ (ji27).toNat)) = ji29 := shl_small hji29
           have H' := am H
           clear H
           go_wp2
           go_roundg k2
           case measure => have := HK1.out; have := HK2.out; omega
           case rel => exact ⟨(Go.bits .or .u64 x7_2 (ji29)), (wrap64 (x8_2 + 1)), (by first | rfl | (simp; done) | (simp only [← hji29] <;> (first | rfl | (simp; done) | (simp [show ∀ j_ : Int, shl .u64 0 j_ = 0 from fun j_ => by unfold shl; rw [Int.zero_mul]; decide]; done))) | (simp [*]; done)), (by first | rfl | (simp; done) | (simp [*]; done)), H', ⟨by have := HK1.out; have := HK2.out; omega⟩, ⟨pk BK295.out⟩, ⟨pk BK296.out⟩, ⟨pb HB⟩⟩
          ·rw [if_neg c28] at H
           exact absurd H (by simp)
         ·rw [if_neg c26] at H
          have c26b0 : decide ((a1.size : Int) < (wrap64 (x6_1 + 8))) = false := decide_eq_false c26
          clear c26
          obtain ⟨ji30, hji30⟩ : ∃ j_ : Int, (IntKind.u64.wrap (wrap64 (8 * x8_2))) = j_ := ⟨_, rfl⟩
          replace H : (if 0 ≤ (ji30) then (r05_Sum.l1 k2 a1 x6_1 (Go.bits .or .u64 x7_2 (shl .u64 0 (ji30))) (wrap64 (x8_2 + 1)) x297000_1 x297001_1 x297002_1 x297003_1) else (none)) = some r := by first | (rw [hji30] at H; exact H) | (simp only [hji30] at H ⊢; exact H)
          by_cases c31 : 0 ≤ (ji30)
          ·rw [if_pos c31] at H
           have c31b0 := eq_true c31
           have c31b1 : decide (0 ≤ (ji30)) = true := decide_eq_true c31
           clear c31
           obtain ⟨ji32, hji32⟩ : ∃ j_ : Int, (shl .u64 0 (ji30)) = j_ := ⟨_, rfl⟩
           replace H : (r05_Sum.l1 k2 a1 x6_1 (Go.bits .or .u64 x7_2 (ji32)) (wrap64 (x8_2 + 1)) x297000_1 x297001_1 x297002_1 x297003_1) = some r := by first | (rw [hji32] at H; exact H) | (simp only [hji32] at H ⊢; exact H)
           have hji32_ : (IntKind.u64.wrap (0 * 2 ^ min (ji30).toNat 64)) = ji32 := hji32
           have hji32z : (ji30) ≤ 64 → (IntKind.u64.wrap (0 * 2 ^ (ji30).toNat)) = ji32 := shl_small hji32
           have H' := am H
           clear H
           go_wp2
           go_roundg k2
           case measure => have := HK1.out; have := HK2.out; omega
           case rel => exact ⟨(Go.bits .or .u64 x7_2 (ji32)), (wrap64 (x8_2 + 1)), (by first | rfl | (simp; done) | (simp only [← hji32] <;> (first | rfl | (simp; done) | (simp [show ∀ j_ : Int, shl .u64 0 j_ = 0 from fun j_ => by unfold shl; rw [Int.zero_mul]; decide]; done))) | (simp [*]; done)), (by first | rfl | (simp; done) | (simp [*]; done)), H', ⟨by have := HK1.out; have := HK2.out; omega⟩, ⟨pk BK295.out⟩, ⟨pk BK296.out⟩, ⟨pb HB⟩⟩
          ·rw [if_neg c31] at H
           exact absurd H (by simp)
        ·rw [if_neg c25] at H
         have c25b0 : (x8_2 == 7) = false := beq_eq_false_iff_ne.mpr c25
         have c25b1 : (x8_2 != 7) = true := bne_iff_ne.mpr c25
         obtain ⟨ji33, hji33⟩ : ∃ j_ : Int, (IntKind.u64.wrap (wrap64 (8 * x8_2))) = j_ := ⟨_, rfl⟩
         replace H : (if 0 ≤ (ji33) then (r05_Sum.l1 k2 a1 x6_1 (Go.bits .or .u64 x7_2 (shl .u64 0 (ji33))) (wrap64 (x8_2 + 1)) x297000_1 x297001_1 x297002_1 x297003_1) else (none)) = some r := by first | (rw [hji33] at H; exact H) | (simp only [hji33] at H ⊢; exact H)
         by_cases c34 : 0 ≤ (ji33)
         ·rw [if_pos c34] at H
          have c34b0 := eq_true c34
          have c34b1 : decide (0 ≤ (ji33)) = true := decide_eq_true c34
          clear c34
          obtain ⟨ji35, hji35⟩ : ∃ j_ : Int, (shl .u64 0 (ji33)) = j_ := ⟨_, rfl⟩
          replace H : (r05_Sum.l1 k2 a1 x6_1 (Go.bits .or .u64 x7_2 (ji35)) (wrap64 (x8_2 + 1)) x297000_1 x297001_1 x297002_1 x297003_1) = some r := by first | (rw [hji35] at H; exact H) | (simp only [hji35] at H ⊢; exact H)
          have hji35_ : (IntKind.u64.wrap (0 * 2 ^ min (ji33).toNat 64)) = ji35 := hji35
          have hji35z : (ji33) ≤ 64 → (IntKind.u64.wrap (0 * 2 ^ (ji33).toNat)) = ji35 := shl_small hji35
          have H' := am H
          clear H
          go_wp2
          go_roundg k2
          case measure => have := HK1.out; have := HK2.out; omega
          case rel => exact ⟨(Go.bits .or .u64 x7_2 (ji35)), (wrap64 (x8_2 + 1)), (by first | rfl | (simp; done) | (simp only [← hji35] <;> (first | rfl | (simp; done) | (simp [show ∀ j_ : Int, shl .u64 0 j_ = 0 from fun j_ => by unfold shl; rw [Int.zero_mul]; decide]; done))) | (simp [*]; done)), (by first | rfl | (simp; done) | (simp [*]; done)), H', ⟨by have := HK1.out; have := HK2.out; omega⟩, ⟨pk BK295.out⟩, ⟨pk BK296.out⟩, ⟨pb HB⟩⟩
         ·rw [if_neg c34] at H
          exact absurd H (by simp)
      ·rw [if_neg c9] at H
       have c9b0 : decide (x8_2 < 8) = false := decide_eq_false c9
       clear c9
       replace H := Option.bind_eq_some_iff.mp H
       obtain ⟨⟨t301, t302, t303, t304⟩, A360, H⟩ := H
       replace H : (r05_Sum.l0 k2 a1 (wrap64 (x6_1 + 8)) (Go.bits .xor .u64 t301 x7_2) t302 t303 t304) = some r := H
       have A36 := am A360
       clear A360
       have H' := am H
       clear H
       have hnb37 := NB296_295.out
       have hnc37 := NB295_296.out
       have hcz38_0 := ce BK296 0
       have hcz38_1 := ce BK296 1
       have hcz38_2 := ce BK296 2
       have hcz38_3 := ce BK296 3
       have hfz38_0 := fz BK296 0
       have hfz38_1 := fz BK296 1
       have hfz38_2 := fz BK296 2
       have hfz38_3 := fz BK296 3
       go_wp2_with (first | ((with_reducible refine gate_callee (f := 41) rfl ?_); refine gl (some 71) Try.func41 #[.agg #[.int .u64 x297000_1, .int .u64 x297001_1, .int .u64 x297002_1, .int .u64 (Go.bits .xor .u64 x297003_1 x7_2)], .int .i64 2] ?_; (with_reducible refine (r05_turns.calls k2 x297000_1 x297001_1 x297002_1 (Go.bits .xor .u64 x297003_1 x7_2) 2 t301 t302 t303 t304 _ A36.out).mono ?_); rintro e w39 ⟨rfl, hb⟩; refine ⟨_, rfl, ?_⟩; replace BK295 := am (blk_below (g := gb295) (o := .cells #[.int .u64 a0_0, .int .u64 a0_1] 24 (0, 0)) (by refine pk ?_; refine blk_far ?_ NB295_296.out _; refine pk ?_; exact BK295.out) hb); replace BK296 := am (blk_below (g := gb296) (o := .cells #[.int .u64 x297000_1, .int .u64 x297001_1, .int .u64 x297002_1, .int .u64 (Go.bits .xor .u64 x297003_1 x7_2)] 76 (0, 0)) (by refine pk ?_; refine blk_put (cs := #[.int .u64 x297000_1, .int .u64 x297001_1, .int .u64 x297002_1, .int .u64 x297003_1]) ?_ 3 _ rfl; refine pk ?_; exact BK296.out) hb); replace HB := am (below_step (pb HB) hb); (try clear hb); (try clear hb2); (try clear hk); (try clear hi); have hcz40_0 := ce BK296 0; have hcz40_1 := ce BK296 1; have hcz40_2 := ce BK296 2; have hcz40_3 := ce BK296 3; have hfz40_0 := fz BK296 0; have hfz40_1 := fz BK296 1; have hfz40_2 := fz BK296 2; have hfz40_3 := fz BK296 3))
       go_roundg k2
       case measure => have := HK1.out; have := HK2.out; omega
       case rel => exact ⟨(wrap64 (x6_1 + 8)), (Go.bits .xor .u64 t301 x7_2), (t302), (t303), (t304), (by first | rfl | (simp; done) | (simp [*]; done)), H', ⟨by have := HK1.out; have := HK2.out; omega⟩, ⟨by refine pk ?_; refine blk_far ?_ NB295_296.out _; refine pk ?_; refine blk_far ?_ NB295_296.out _; refine pk ?_; refine blk_far ?_ NB295_296.out _; refine pk ?_; refine blk_far ?_ NB295_296.out _; refine pk ?_; refine blk_far ?_ NB295_296.out _; refine pk ?_; exact BK295.out⟩, ⟨by refine pk ?_; refine blk_put (cs := #[.int .u64 t301, .int .u64 t302, .int .u64 t303, .int .u64 t304]) ?_ 0 _ rfl; refine pk ?_; refine blk_put (cs := #[.int .u64 t301, .int .u64 t302, .int .u64 t303, .int .u64 (Go.bits .xor .u64 x297003_1 x7_2)]) ?_ 3 _ rfl; refine pk ?_; refine blk_put (cs := #[.int .u64 t301, .int .u64 t302, .int .u64 x297002_1, .int .u64 (Go.bits .xor .u64 x297003_1 x7_2)]) ?_ 2 _ rfl; refine pk ?_; refine blk_put (cs := #[.int .u64 t301, .int .u64 x297001_1, .int .u64 x297002_1, .int .u64 (Go.bits .xor .u64 x297003_1 x7_2)]) ?_ 1 _ rfl; refine pk ?_; refine blk_put (cs := #[.int .u64 x297000_1, .int .u64 x297001_1, .int .u64 x297002_1, .int .u64 (Go.bits .xor .u64 x297003_1 x7_2)]) ?_ 0 _ rfl; refine pk ?_; exact BK296.out⟩, ⟨pb HB⟩⟩
   ·rw [if_neg c8] at H
    have c8b0 : decide (x6_1 ≤ (a1.size : Int)) = false := decide_eq_false c8
    clear c8
    replace H := Option.bind_eq_some_iff.mp H
    obtain ⟨⟨t297, t298, t299, t300⟩, A410, H⟩ := H
    replace H : (some (Go.bits .xor .u64 (Go.bits .xor .u64 (Go.bits .xor .u64 t297 t298) t299) t300)) = some r := H
    have A41 := am A410
    clear A410
    obtain rfl := Option.some.inj H
    have hnb42 := NB296_295.out
    have hnc42 := NB295_296.out
    have hcz43_0 := ce BK296 0
    have hcz43_1 := ce BK296 1
    have hcz43_2 := ce BK296 2
    have hcz43_3 := ce BK296 3
    have hfz43_0 := fz BK296 0
    have hfz43_1 := fz BK296 1
    have hfz43_2 := fz BK296 2
    have hfz43_3 := fz BK296 3
    go_wp2_with (first | ((with_reducible refine gate_callee (f := 41) rfl ?_); refine gl (some 82) Try.func41 #[.agg #[.int .u64 x297000_1, .int .u64 x297001_1, .int .u64 (Go.bits .xor .u64 x297002_1 255), .int .u64 x297003_1], .int .i64 4] ?_; (with_reducible refine (r05_turns.calls k1 x297000_1 x297001_1 (Go.bits .xor .u64 x297002_1 255) x297003_1 4 t297 t298 t299 t300 _ A41.out).mono ?_); rintro e w44 ⟨rfl, hb⟩; refine ⟨_, rfl, ?_⟩; replace BK295 := am (blk_below (g := gb295) (o := .cells #[.int .u64 a0_0, .int .u64 a0_1] 24 (0, 0)) (by refine pk ?_; refine blk_far ?_ NB295_296.out _; refine pk ?_; exact BK295.out) hb); replace BK296 := am (blk_below (g := gb296) (o := .cells #[.int .u64 x297000_1, .int .u64 x297001_1, .int .u64 (Go.bits .xor .u64 x297002_1 255), .int .u64 x297003_1] 76 (0, 0)) (by refine pk ?_; refine blk_put (cs := #[.int .u64 x297000_1, .int .u64 x297001_1, .int .u64 x297002_1, .int .u64 x297003_1]) ?_ 2 _ rfl; refine pk ?_; exact BK296.out) hb); replace HB := am (below_step (pb HB) hb); (try clear hb); (try clear hb2); (try clear hk); (try clear hi); have hcz45_0 := ce BK296 0; have hcz45_1 := ce BK296 1; have hcz45_2 := ce BK296 2; have hcz45_3 := ce BK296 3; have hfz45_0 := fz BK296 0; have hfz45_1 := fz BK296 1; have hfz45_2 := fz BK296 2; have hfz45_3 := fz BK296 3))
    go_ret
    exact ⟨by first | rfl | (simp [errW_none, errW_some] <;> rfl) | (simp [*, errW_none, errW_some] <;> rfl), pb HB⟩
def r12_Home.f (k : Nat) (a0_0 : Int) (a0_1 : Int) (l0_2 : List (S46)) (a1 : ByteArray) : Option (Int) := (r05_Sum.f k a0_0 a0_1 a1).bind fun t306 => (if (IntKind.u64.wrap ((l0_2.length : Int))) = 0 then (none) else (some (wrap64 (Int.tmod t306 (IntKind.u64.wrap ((l0_2.length : Int)))))))
theorem r12_Home.mono : ∀ a0 a1 a2 a3 k, LeO (r12_Home.f k a0 a1 a2 a3) (r12_Home.f (k + 1) a0 a1 a2 a3) := by
 intro a0 a1 a2 a3 k
 unfold r12_Home.f
 repeat' first
   | (with_reducible exact r05_Sum.mono _ _ _ _)
   | (with_reducible exact LeO.refl _)
   | (with_reducible exact LeO.none _)
   | (with_reducible refine LeO.ite ?_ ?_)
   | (with_reducible refine LeO.bind ?_ (fun _ => ?_))
def r12_Home.T1 : Bool × List (List Nat × List Nat) := (true, [([], []), ([0], [0]), ([], []), ([1, 2], [1, 2]), ([], []), ([4], [4]), ([5], [5]), ([6], [6]), ([3, 7], [3, 7]), ([8], [8]), ([9, 3, 0, 1, 2, 3, 4, 5, 6, 7, 8, 9], [9])])
def r12_Home.B1 : List Nat := [0, 1, 0, 7, 0, 16, 48, 112, 255, 511, 1023]
theorem r12_Home.tab1 : rtab .any (opsOf Try.f24 1) = r12_Home.T1 := by kernel_rfl
theorem r12_Home.bits1 : waitsOk r12_Home.T1.2 r12_Home.B1 = true := by kernel_rfl
set_option maxHeartbeats 8000000 in
set_option maxRecDepth 100000 in
theorem r12_Home.calls (k : Nat) (a0_0 : Int) (a0_1 : Int) (A0_2 : Option Addr) (c0_2 : Nat) (l0_2 : List (S46)) (a1 : ByteArray) (r : Int) (w : World) (hr0_2 : Kd.C k46 w A0_2 l0_2.length l0_2) (hc0_2 : l0_2.length ≤ c0_2) (h : r12_Home.f k a0_0 a0_1 l0_2 a1 = some r) :
  Calls Try.prog 24 #[.agg #[.int .u64 a0_0, .int .u64 a0_1, .slice A0_2 l0_2.length c0_2], .string a1] w fun e w' => e = .returned (.int .i64 r) ∧ Below w.heap.size w w' := by
 have hu30 := Try.underlying30
 have hu24 := Try.underlying24
 have HR0_2 := am hr0_2
 have HC0_2 := am hc0_2
 clear hr0_2 hc0_2
 have HB := am (Below.refl w.heap.size w)
 have H : ((r05_Sum.f k a0_0 a0_1 a1).bind fun t306 => (if (IntKind.u64.wrap ((l0_2.length : Int))) = 0 then (none) else (some (wrap64 (Int.tmod t306 (IntKind.u64.wrap ((l0_2.length : Int)))))))) = some r := h
 clear h
 replace H := Option.bind_eq_some_iff.mp H
 obtain ⟨t306, A30, H⟩ := H
 replace H : (if (IntKind.u64.wrap ((l0_2.length : Int))) = 0 then (none) else (some (wrap64 (Int.tmod t306 (IntKind.u64.wrap ((l0_2.length : Int))))))) = some r := H
 have A3 := am A30
 clear A30
 by_cases c4 : (IntKind.u64.wrap ((l0_2.length : Int))) = 0
 ·rw [if_pos c4] at H
  exact absurd H (by simp)
 rw [if_neg c4] at H
 have c4b0 : ((IntKind.u64.wrap ((l0_2.length : Int))) == 0) = false := beq_eq_false_iff_ne.mpr c4
 have c4b1 : ((IntKind.u64.wrap ((l0_2.length : Int))) != 0) = true := bne_iff_ne.mpr c4
 obtain rfl := Option.some.inj H
 go_enter Try.func24, Try.ntmps24
 try go_wp2_with (first | ((with_reducible refine gate_dst (N := 2) rfl ?_); refine be 2 #[.int .u64 a0_0, .int .u64 a0_1, .slice A0_2 l0_2.length c0_2] 30 ?_; intro gb305 hg w5 hbox hb; have n0_ := am (below_step (pb HB) hb); have n1_ := am (hbox); have n2_ := am ((pg hg HB : w.heap.size ≤ gb305)); have n3_ := am ((pg hg HB : w.heap.size ≤ gb305)); clear HB; have HB := n0_; have BK305 := n1_; have GW305 := n2_; have GE305 := n3_; clear n0_ n1_ n2_ n3_; clear hb hbox hg))
 replace BK305 := am (blk_drew BK305.out)
 replace HB := am (below_drew1 HB.out)
 refine start_ (n := 11) (S := fun w' => w'.cell? ⟨gb305, 0, none⟩ = some (.int .u64 a0_0) ∧ w'.cell? ⟨gb305, 1, none⟩ = some (.int .u64 a0_1) ∧ w'.cell? ⟨gb305, 2, none⟩ = some (.slice A0_2 l0_2.length c0_2)) (ds := []) #[false, false, false, false, false, false, false, false, false, false, false] (by kernel_rfl) rfl rfl ⟨ce BK305 0, ce BK305 1, ce BK305 2⟩ (fun hHeld => ?_); refine with_tabW r12_Home.tab1 r12_Home.bits1 (fun HT_ HW_ => ?_)
 generalize w5.drew = w6 at BK305 HB hHeld ⊢
 refine pu 0 ?_
 refine pu 2 ?_
 refine pu 4 ?_
 refine ta 1 hHeld ?_
 refine ta 5 hHeld ?_
 refine pu 6 ?_
 refine pu 7 ?_
 refine on1 3 (fun K hK => ?_)
 refine gs Try.func36 #[.agg #[.int .u64 a0_0, .int .u64 a0_1], .string a1] ?_
 with_reducible refine (r05_Sum.calls k a0_0 a0_1 a1 t306 _ A3.out).mono ?_
 rintro e w7 ⟨rfl, hb⟩
 refine ⟨_, rfl, ?_⟩
 replace BK305 := am (blk_below (pk BK305.out) hb)
 replace HB := am (below_step (pb HB) hb)
 (try clear hb)
 (try clear hb2)
 (try clear hk)
 (try clear hi)
 refine hK.out _ _ ⟨ce BK305 0, ce BK305 1, ce BK305 2⟩ (fun hHeld => ?_)
 clear hK K
 refine nm ?_
 refine pu 8 ?_
 refine pu 9 ?_
 refine pu 10 ?_
 refine done_ (done_of HT_.out (by kernel_rfl)) ?_
 try go_wp2
 go_ret
 exact ⟨by first | rfl | (simp [errW_none, errW_some] <;> rfl) | (simp [*, errW_none, errW_some] <;> rfl), pb HB⟩
end Go.Proofs.Ytojpmjkphgjmgaa.H
