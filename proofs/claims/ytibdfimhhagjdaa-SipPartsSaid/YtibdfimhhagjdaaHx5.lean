-- laid by wip/hyb.py (the kit's printer with turns of ours)
import Derived.Test.YtibdfimhhagjdaaHx0
import Derived.Test.YtibdfimhhagjdaaHx4
namespace Go.Proofs.Ytibdfimhhagjdaa.H
open Go.RowKit Go.Proofs.YtibdfimhhagjdaaW.PrintWords Go.Proofs.YtibdfimhhagjdaaW.PrintLast Go.Proofs.YtibdfimhhagjdaaW.PrintMore
attribute [local go_sem] max2_int min2_int max_two min_two max_three min_three max_four min_four   -- for this text's walks alone
set_option linter.unusedVariables false
set_option linter.unusedSimpArgs false

/-! ### samphireref05_turns: function 15 -/
def samphireref05_turns.l0 : Nat → Int → Int → Int → Int → Int → Int → Option (Int × Int × Int × Int)
  | 0, _, _, _, _, _, _ => none
  | k + 1, x1, x5, x160000, x160001, x160002, x160003 => if x5 < x1 then ((samphireref05_left.f x160001 13).bind fun t161 => ((samphireref05_left.f (IntKind.u64.wrap (x160000 + x160001)) 32).bind fun t162 => ((samphireref05_left.f x160003 16).bind fun t163 => ((samphireref05_left.f (Go.bits .xor .u64 t163 (IntKind.u64.wrap (x160002 + x160003))) 21).bind fun t164 => ((samphireref05_left.f (Go.bits .xor .u64 t161 (IntKind.u64.wrap (x160000 + x160001))) 17).bind fun t165 => ((samphireref05_left.f (IntKind.u64.wrap ((IntKind.u64.wrap (x160002 + x160003)) + (Go.bits .xor .u64 t161 (IntKind.u64.wrap (x160000 + x160001))))) 32).bind fun t166 => (samphireref05_turns.l0 k x1 (wrap64 (x5 + 1)) (IntKind.u64.wrap (t162 + (Go.bits .xor .u64 t163 (IntKind.u64.wrap (x160002 + x160003))))) (Go.bits .xor .u64 t165 (IntKind.u64.wrap ((IntKind.u64.wrap (x160002 + x160003)) + (Go.bits .xor .u64 t161 (IntKind.u64.wrap (x160000 + x160001)))))) t166 (Go.bits .xor .u64 t164 (IntKind.u64.wrap (t162 + (Go.bits .xor .u64 t163 (IntKind.u64.wrap (x160002 + x160003))))))))))))) else (some (x160000, x160001, x160002, x160003))
def samphireref05_turns.f (k : Nat) (a0_0 : Int) (a0_1 : Int) (a0_2 : Int) (a0_3 : Int) (a1 : Int) : Option (Int × Int × Int × Int) := samphireref05_turns.l0 k a1 0 a0_0 a0_1 a0_2 a0_3
theorem samphireref05_turns.mono_l : ∀ k, (∀ y0 y1 y2 y3 y4 y5, LeO (samphireref05_turns.l0 k y0 y1 y2 y3 y4 y5) (samphireref05_turns.l0 (k + 1) y0 y1 y2 y3 y4 y5))
  | 0 => fun _ _ _ _ _ _ r h => by simp [samphireref05_turns.l0] at h
  | k + 1 => by
    have ih0 := samphireref05_turns.mono_l k
    · intro y0 y1 y2 y3 y4 y5
      unfold samphireref05_turns.l0
      repeat' first
      | (with_reducible exact ih0 _ _ _ _ _ _)
      | (with_reducible exact LeO.refl _)
      | (with_reducible exact LeO.none _)
      | (with_reducible refine LeO.ite ?_ ?_)
      | (with_reducible refine LeO.bind ?_ (fun _ => ?_))
      | exact ih0 _ _ _ _ _ _
      | exact LeO.none _
      | refine LeO.ite ?_ ?_
      | refine LeO.bind ?_ (fun _ => ?_)
theorem samphireref05_turns.mono : ∀ a0 a1 a2 a3 a4 k, LeO (samphireref05_turns.f k a0 a1 a2 a3 a4) (samphireref05_turns.f (k + 1) a0 a1 a2 a3 a4) := by
  intro a0 a1 a2 a3 a4 k
  have ih0 := samphireref05_turns.mono_l k
  unfold samphireref05_turns.f
  repeat' first
      | (with_reducible exact ih0 _ _ _ _ _ _)
      | (with_reducible exact LeO.refl _)
      | (with_reducible exact LeO.none _)
      | (with_reducible refine LeO.ite ?_ ?_)
      | (with_reducible refine LeO.bind ?_ (fun _ => ?_))
      | exact ih0 _ _ _ _ _ _
      | exact LeO.none _
      | refine LeO.ite ?_ ?_
      | refine LeO.bind ?_ (fun _ => ?_)
def samphireref05_turns.T5 : Bool × List (List Nat × List Nat) := (true, [([], []), ([0], [0]), ([1], [1]), ([], []), ([3], [3]), ([2, 4], [2, 4]), ([0, 1, 2, 3, 4, 5], []), ([6, 5, 2, 0, 1, 2, 3, 4, 5], [5, 6])])
def samphireref05_turns.B5 : List Nat := [0, 1, 3, 0, 8, 31, 63, 127]
theorem samphireref05_turns.tab5 : rtab .any (opsOf Try.f15 5) = samphireref05_turns.T5 := by kernel_rfl
theorem samphireref05_turns.bits5 : waitsOk samphireref05_turns.T5.2 samphireref05_turns.B5 = true := by kernel_rfl
def samphireref05_turns.T8 : Bool × List (List Nat × List Nat) := (true, [([], []), ([0], [0]), ([1], [1]), ([], []), ([3], [3]), ([2, 4], [2, 4]), ([0, 1, 2, 3, 4, 5], []), ([6, 5, 2, 0, 1, 2, 3, 4, 5], [5, 6])])
def samphireref05_turns.B8 : List Nat := [0, 1, 3, 0, 8, 31, 63, 127]
theorem samphireref05_turns.tab8 : rtab .any (opsOf Try.f15 8) = samphireref05_turns.T8 := by kernel_rfl
theorem samphireref05_turns.bits8 : waitsOk samphireref05_turns.T8.2 samphireref05_turns.B8 = true := by kernel_rfl
def samphireref05_turns.T10 : Bool × List (List Nat × List Nat) := (true, [([], []), ([0], [0]), ([1], [1]), ([], []), ([3], [3]), ([2, 4], [2, 4]), ([0, 1, 2, 3, 4, 5], []), ([6, 5, 2, 0, 1, 2, 3, 4, 5], [5, 6])])
def samphireref05_turns.B10 : List Nat := [0, 1, 3, 0, 8, 31, 63, 127]
theorem samphireref05_turns.tab10 : rtab .any (opsOf Try.f15 10) = samphireref05_turns.T10 := by kernel_rfl
theorem samphireref05_turns.bits10 : waitsOk samphireref05_turns.T10.2 samphireref05_turns.B10 = true := by kernel_rfl
def samphireref05_turns.T12 : Bool × List (List Nat × List Nat) := (true, [([], []), ([0], [0]), ([1], [1]), ([], []), ([3], [3]), ([2, 4], [2, 4]), ([0, 1, 2, 3, 4, 5], []), ([6, 5, 2, 0, 1, 2, 3, 4, 5], [5, 6])])
def samphireref05_turns.B12 : List Nat := [0, 1, 3, 0, 8, 31, 63, 127]
theorem samphireref05_turns.tab12 : rtab .any (opsOf Try.f15 12) = samphireref05_turns.T12 := by kernel_rfl
theorem samphireref05_turns.bits12 : waitsOk samphireref05_turns.T12.2 samphireref05_turns.B12 = true := by kernel_rfl
set_option maxHeartbeats 8000000 in
set_option maxRecDepth 100000 in
theorem samphireref05_turns.calls (k : Nat) (a0_0 : Int) (a0_1 : Int) (a0_2 : Int) (a0_3 : Int) (a1 : Int) (r1 : Int) (r2 : Int) (r3 : Int) (r4 : Int) (w : World) (h : samphireref05_turns.f k a0_0 a0_1 a0_2 a0_3 a1 = some (r1, r2, r3, r4)) :
    Calls Try.prog 15 #[.agg #[.int .u64 a0_0, .int .u64 a0_1, .int .u64 a0_2, .int .u64 a0_3], .int .i64 a1] w fun e w' => e = .returned (.agg #[.int .u64 r1, .int .u64 r2, .int .u64 r3, .int .u64 r4]) ∧ Below w.heap.size w w' := by
  have hu29 := Try.underlying29
  have HB := Aside0.mk (Below.refl w.heap.size w)
  have H : (samphireref05_turns.l0 k a1 0 a0_0 a0_1 a0_2 a0_3) = some (r1, r2, r3, r4) := h
  clear h
  have H' := Aside0.mk H
  clear H
  go_enter Try.func15, Try.ntmps15
  go_wp2_with (first | ((with_reducible refine gate_dst (N := 2) rfl ?_); refine box_event ?hg (N := 2) ?hd (cs := #[.int .u64 a0_0, .int .u64 a0_1, .int .u64 a0_2, .int .u64 a0_3]) (t := 29) ?hr ?_; (case hd => rfl); (case hg => rfl); (case hr => first | (go_simp; done) | (go_simp; rfl)); intro gb159 hg w3 hbox hb; have n0_ := Aside0.mk (below_step (by repeat (first | (with_reducible first | exact HB.out | apply below_alloc | apply pw_below_drewN | apply below_drew1) | exact HB.out)) hb); have n1_ := Aside0.mk (hbox); have n2_ := Aside0.mk ((by rw [hg]; exact (below_size (by repeat (first | (with_reducible first | exact HB.out | apply below_alloc | apply pw_below_drewN | apply below_drew1) | exact HB.out))) : w.heap.size ≤ gb159)); have n3_ := Aside0.mk ((by rw [hg]; exact (below_size (by repeat (first | (with_reducible first | exact HB.out | apply below_alloc | apply pw_below_drewN | apply below_drew1) | exact HB.out))) : w.heap.size ≤ gb159)); clear HB; have HB := n0_; have BK159 := n1_; have GW159 := n2_; have GE159 := n3_; clear n0_ n1_ n2_ n3_; clear hb hbox hg) | ((with_reducible refine gate_dst (N := 4) rfl ?_); refine box_event ?hg (N := 4) ?hd (cs := #[.int .u64 0, .int .u64 0, .int .u64 0, .int .u64 0]) (t := 29) ?hr ?_; (case hd => rfl); (case hg => rfl); (case hr => first | (go_simp; done) | (go_simp; rfl)); intro gb160 hg w4 hbox hb; have n0_ := Aside0.mk (blk_below (g := gb159) (o := .cells #[.int .u64 a0_0, .int .u64 a0_1, .int .u64 a0_2, .int .u64 a0_3] 29 (0, 0)) (by (with_reducible repeat (first | refine blk_drewN ?_ _ | refine blk_drew ?_ | refine blk_alloc ?_ _)); exact BK159.out) hb); have n1_ := Aside0.mk (below_step (by repeat (first | (with_reducible first | exact HB.out | apply below_alloc | apply pw_below_drewN | apply below_drew1 | refine below_set ?_ GE159.out) | exact HB.out)) hb); have n2_ := Aside0.mk (hbox); have n3_ := Aside0.mk ((by rw [hg]; exact (below_size (by repeat (first | (with_reducible first | exact HB.out | apply below_alloc | apply pw_below_drewN | apply below_drew1 | refine below_set ?_ GE159.out) | exact HB.out))) : w.heap.size ≤ gb160)); have n4_ := Aside0.mk ((by rw [hg]; exact (below_size (by repeat (first | (with_reducible first | exact HB.out | apply below_alloc | apply pw_below_drewN | apply below_drew1 | refine below_set ?_ GE159.out) | exact HB.out))) : w.heap.size ≤ gb160)); have n5_ := Aside0.mk ((by rw [hg]; exact Nat.ne_of_lt (blk_lt (g := gb159) (o := .cells #[.int .u64 a0_0, .int .u64 a0_1, .int .u64 a0_2, .int .u64 a0_3] 29 (0, 0)) (by (with_reducible repeat (first | refine blk_drewN ?_ _ | refine blk_drew ?_ | refine blk_alloc ?_ _)); exact BK159.out)) : gb159 ≠ gb160)); have n6_ := Aside0.mk ((by rw [hg]; exact Nat.ne_of_gt (blk_lt (g := gb159) (o := .cells #[.int .u64 a0_0, .int .u64 a0_1, .int .u64 a0_2, .int .u64 a0_3] 29 (0, 0)) (by (with_reducible repeat (first | refine blk_drewN ?_ _ | refine blk_drew ?_ | refine blk_alloc ?_ _)); exact BK159.out)) : gb160 ≠ gb159)); clear BK159; clear HB; have BK159 := n0_; have HB := n1_; have BK160 := n2_; have GW160 := n3_; have GE160 := n4_; have NB159_160 := n5_; have NB160_159 := n6_; clear n0_ n1_ n2_ n3_ n4_ n5_ n6_; clear hb hbox hg))
  go_loopg [5] k (fun kq v5 w' => ∃ (x5_1 : Int) (x160000_1 : Int) (x160001_1 : Int) (x160002_1 : Int) (x160003_1 : Int), v5 = .int .i64 x5_1 ∧ Aside0 (samphireref05_turns.l0 kq a1 x5_1 x160000_1 x160001_1 x160002_1 x160003_1 = some (r1, r2, r3, r4)) ∧ Aside0 (kq ≤ k) ∧ Aside0 (w'.heap[gb159]? = some (.cells #[.int .u64 x160000_1, .int .u64 x160001_1, .int .u64 x160002_1, .int .u64 x160003_1] 29 (0, 0))) ∧ Aside0 (w'.heap[gb160]? = some (.cells #[.int .u64 0, .int .u64 0, .int .u64 0, .int .u64 0] 29 (0, 0))) ∧ Aside0 (Below w.heap.size w w'))
  case atStart => exact ⟨(0), (a0_0), (a0_1), (a0_2), (a0_3), (by first | rfl | (simp; done) | (simp [*]; done)), H', ⟨Nat.le_refl _⟩, ⟨by (with_reducible repeat (first | refine blk_drewN ?_ _ | refine blk_drew ?_ | refine blk_alloc ?_ _)); exact BK159.out⟩, ⟨by (with_reducible repeat (first | refine blk_drewN ?_ _ | refine blk_drew ?_ | refine blk_alloc ?_ _)); exact BK160.out⟩, ⟨by repeat (first | (with_reducible first | exact HB.out | apply below_alloc | apply pw_below_drewN | apply below_drew1 | refine below_set ?_ GE159.out | refine below_set ?_ GE160.out) | exact HB.out)⟩⟩
  case round =>
    clear H'
    try clear c1
    try clear p2
    obtain ⟨x5_1, x160000_1, x160001_1, x160002_1, x160003_1, rfl, HA, HK1, BK159, BK160, HB⟩ := hrel
    cases gk with
    | zero => exact absurd HA.out (by simp [samphireref05_turns.l0])
    | succ k1 =>
      have H := HA.out
      clear HA
      simp only [samphireref05_turns.l0] at H
      by_cases c5 : x5_1 < a1
      · rw [if_pos c5] at H
        have c5b0 : decide (x5_1 < a1) = true := decide_eq_true c5
        clear c5
        replace H := Option.bind_eq_some_iff.mp H
        obtain ⟨t161, A60, H⟩ := H
        replace H : ((samphireref05_left.f (IntKind.u64.wrap (x160000_1 + x160001_1)) 32).bind fun t162 => ((samphireref05_left.f x160003_1 16).bind fun t163 => ((samphireref05_left.f (Go.bits .xor .u64 t163 (IntKind.u64.wrap (x160002_1 + x160003_1))) 21).bind fun t164 => ((samphireref05_left.f (Go.bits .xor .u64 t161 (IntKind.u64.wrap (x160000_1 + x160001_1))) 17).bind fun t165 => ((samphireref05_left.f (IntKind.u64.wrap ((IntKind.u64.wrap (x160002_1 + x160003_1)) + (Go.bits .xor .u64 t161 (IntKind.u64.wrap (x160000_1 + x160001_1))))) 32).bind fun t166 => (samphireref05_turns.l0 k1 a1 (wrap64 (x5_1 + 1)) (IntKind.u64.wrap (t162 + (Go.bits .xor .u64 t163 (IntKind.u64.wrap (x160002_1 + x160003_1))))) (Go.bits .xor .u64 t165 (IntKind.u64.wrap ((IntKind.u64.wrap (x160002_1 + x160003_1)) + (Go.bits .xor .u64 t161 (IntKind.u64.wrap (x160000_1 + x160001_1)))))) t166 (Go.bits .xor .u64 t164 (IntKind.u64.wrap (t162 + (Go.bits .xor .u64 t163 (IntKind.u64.wrap (x160002_1 + x160003_1)))))))))))) = some (r1, r2, r3, r4) := H
        have A6 := Aside0.mk A60
        clear A60
        replace H := Option.bind_eq_some_iff.mp H
        obtain ⟨t162, A70, H⟩ := H
        replace H : ((samphireref05_left.f x160003_1 16).bind fun t163 => ((samphireref05_left.f (Go.bits .xor .u64 t163 (IntKind.u64.wrap (x160002_1 + x160003_1))) 21).bind fun t164 => ((samphireref05_left.f (Go.bits .xor .u64 t161 (IntKind.u64.wrap (x160000_1 + x160001_1))) 17).bind fun t165 => ((samphireref05_left.f (IntKind.u64.wrap ((IntKind.u64.wrap (x160002_1 + x160003_1)) + (Go.bits .xor .u64 t161 (IntKind.u64.wrap (x160000_1 + x160001_1))))) 32).bind fun t166 => (samphireref05_turns.l0 k1 a1 (wrap64 (x5_1 + 1)) (IntKind.u64.wrap (t162 + (Go.bits .xor .u64 t163 (IntKind.u64.wrap (x160002_1 + x160003_1))))) (Go.bits .xor .u64 t165 (IntKind.u64.wrap ((IntKind.u64.wrap (x160002_1 + x160003_1)) + (Go.bits .xor .u64 t161 (IntKind.u64.wrap (x160000_1 + x160001_1)))))) t166 (Go.bits .xor .u64 t164 (IntKind.u64.wrap (t162 + (Go.bits .xor .u64 t163 (IntKind.u64.wrap (x160002_1 + x160003_1))))))))))) = some (r1, r2, r3, r4) := H
        have A7 := Aside0.mk A70
        clear A70
        replace H := Option.bind_eq_some_iff.mp H
        obtain ⟨t163, A80, H⟩ := H
        replace H : ((samphireref05_left.f (Go.bits .xor .u64 t163 (IntKind.u64.wrap (x160002_1 + x160003_1))) 21).bind fun t164 => ((samphireref05_left.f (Go.bits .xor .u64 t161 (IntKind.u64.wrap (x160000_1 + x160001_1))) 17).bind fun t165 => ((samphireref05_left.f (IntKind.u64.wrap ((IntKind.u64.wrap (x160002_1 + x160003_1)) + (Go.bits .xor .u64 t161 (IntKind.u64.wrap (x160000_1 + x160001_1))))) 32).bind fun t166 => (samphireref05_turns.l0 k1 a1 (wrap64 (x5_1 + 1)) (IntKind.u64.wrap (t162 + (Go.bits .xor .u64 t163 (IntKind.u64.wrap (x160002_1 + x160003_1))))) (Go.bits .xor .u64 t165 (IntKind.u64.wrap ((IntKind.u64.wrap (x160002_1 + x160003_1)) + (Go.bits .xor .u64 t161 (IntKind.u64.wrap (x160000_1 + x160001_1)))))) t166 (Go.bits .xor .u64 t164 (IntKind.u64.wrap (t162 + (Go.bits .xor .u64 t163 (IntKind.u64.wrap (x160002_1 + x160003_1)))))))))) = some (r1, r2, r3, r4) := H
        have A8 := Aside0.mk A80
        clear A80
        replace H := Option.bind_eq_some_iff.mp H
        obtain ⟨t164, A90, H⟩ := H
        replace H : ((samphireref05_left.f (Go.bits .xor .u64 t161 (IntKind.u64.wrap (x160000_1 + x160001_1))) 17).bind fun t165 => ((samphireref05_left.f (IntKind.u64.wrap ((IntKind.u64.wrap (x160002_1 + x160003_1)) + (Go.bits .xor .u64 t161 (IntKind.u64.wrap (x160000_1 + x160001_1))))) 32).bind fun t166 => (samphireref05_turns.l0 k1 a1 (wrap64 (x5_1 + 1)) (IntKind.u64.wrap (t162 + (Go.bits .xor .u64 t163 (IntKind.u64.wrap (x160002_1 + x160003_1))))) (Go.bits .xor .u64 t165 (IntKind.u64.wrap ((IntKind.u64.wrap (x160002_1 + x160003_1)) + (Go.bits .xor .u64 t161 (IntKind.u64.wrap (x160000_1 + x160001_1)))))) t166 (Go.bits .xor .u64 t164 (IntKind.u64.wrap (t162 + (Go.bits .xor .u64 t163 (IntKind.u64.wrap (x160002_1 + x160003_1))))))))) = some (r1, r2, r3, r4) := H
        have A9 := Aside0.mk A90
        clear A90
        replace H := Option.bind_eq_some_iff.mp H
        obtain ⟨t165, A100, H⟩ := H
        replace H : ((samphireref05_left.f (IntKind.u64.wrap ((IntKind.u64.wrap (x160002_1 + x160003_1)) + (Go.bits .xor .u64 t161 (IntKind.u64.wrap (x160000_1 + x160001_1))))) 32).bind fun t166 => (samphireref05_turns.l0 k1 a1 (wrap64 (x5_1 + 1)) (IntKind.u64.wrap (t162 + (Go.bits .xor .u64 t163 (IntKind.u64.wrap (x160002_1 + x160003_1))))) (Go.bits .xor .u64 t165 (IntKind.u64.wrap ((IntKind.u64.wrap (x160002_1 + x160003_1)) + (Go.bits .xor .u64 t161 (IntKind.u64.wrap (x160000_1 + x160001_1)))))) t166 (Go.bits .xor .u64 t164 (IntKind.u64.wrap (t162 + (Go.bits .xor .u64 t163 (IntKind.u64.wrap (x160002_1 + x160003_1)))))))) = some (r1, r2, r3, r4) := H
        have A10 := Aside0.mk A100
        clear A100
        replace H := Option.bind_eq_some_iff.mp H
        obtain ⟨t166, A110, H⟩ := H
        replace H : (samphireref05_turns.l0 k1 a1 (wrap64 (x5_1 + 1)) (IntKind.u64.wrap (t162 + (Go.bits .xor .u64 t163 (IntKind.u64.wrap (x160002_1 + x160003_1))))) (Go.bits .xor .u64 t165 (IntKind.u64.wrap ((IntKind.u64.wrap (x160002_1 + x160003_1)) + (Go.bits .xor .u64 t161 (IntKind.u64.wrap (x160000_1 + x160001_1)))))) t166 (Go.bits .xor .u64 t164 (IntKind.u64.wrap (t162 + (Go.bits .xor .u64 t163 (IntKind.u64.wrap (x160002_1 + x160003_1))))))) = some (r1, r2, r3, r4) := H
        have A11 := Aside0.mk A110
        clear A110
        have H' := Aside0.mk H
        clear H
        have hnb12 := NB159_160.out
        have hnc12 := NB160_159.out
        have hcz13_0 : wr.cell? ⟨gb159, 0, none⟩ = some (.int .u64 x160000_1) := (blk_cell BK159.out 0).trans rfl
        have hcz13_1 : wr.cell? ⟨gb159, 1, none⟩ = some (.int .u64 x160001_1) := (blk_cell BK159.out 1).trans rfl
        have hcz13_2 : wr.cell? ⟨gb159, 2, none⟩ = some (.int .u64 x160002_1) := (blk_cell BK159.out 2).trans rfl
        have hcz13_3 : wr.cell? ⟨gb159, 3, none⟩ = some (.int .u64 x160003_1) := (blk_cell BK159.out 3).trans rfl
        have hfz13_0 := blk_frozen BK159.out 0
        have hfz13_1 := blk_frozen BK159.out 1
        have hfz13_2 := blk_frozen BK159.out 2
        have hfz13_3 := blk_frozen BK159.out 3
        try go_wp2
        have n0_ : Aside0 ((wr.setCell ⟨gb159, 0, none⟩ (.int .u64 (IntKind.u64.wrap (x160000_1 + x160001_1)))).heap[gb159]? = some (.cells #[.int .u64 (IntKind.u64.wrap (x160000_1 + x160001_1)), .int .u64 x160001_1, .int .u64 x160002_1, .int .u64 x160003_1] 29 (0, 0))) := ⟨by (with_reducible repeat (first | refine blk_drewN ?_ _ | refine blk_drew ?_ | refine blk_alloc ?_ _)); refine blk_put (cs := #[.int .u64 x160000_1, .int .u64 x160001_1, .int .u64 x160002_1, .int .u64 x160003_1]) ?_ 0 _ rfl; (with_reducible repeat (first | refine blk_drewN ?_ _ | refine blk_drew ?_ | refine blk_alloc ?_ _)); exact BK159.out⟩
        have n1_ : Aside0 ((wr.setCell ⟨gb159, 0, none⟩ (.int .u64 (IntKind.u64.wrap (x160000_1 + x160001_1)))).heap[gb160]? = some (.cells #[.int .u64 0, .int .u64 0, .int .u64 0, .int .u64 0] 29 (0, 0))) := ⟨by (with_reducible repeat (first | refine blk_drewN ?_ _ | refine blk_drew ?_ | refine blk_alloc ?_ _)); refine blk_far ?_ NB160_159.out _; (with_reducible repeat (first | refine blk_drewN ?_ _ | refine blk_drew ?_ | refine blk_alloc ?_ _)); exact BK160.out⟩
        have n2_ : Aside0 (Below w.heap.size w (wr.setCell ⟨gb159, 0, none⟩ (.int .u64 (IntKind.u64.wrap (x160000_1 + x160001_1))))) := ⟨by repeat (first | (with_reducible first | exact HB.out | apply below_alloc | apply pw_below_drewN | apply below_drew1 | refine below_set ?_ GE159.out | refine below_set ?_ GE160.out) | exact HB.out)⟩
        (try clear BK159)
        (try clear BK160)
        (try clear HB)
        generalize (wr.setCell ⟨gb159, 0, none⟩ (.int .u64 (IntKind.u64.wrap (x160000_1 + x160001_1)))) = w14 at n0_ n1_ n2_ ⊢
        have BK159 := n0_
        have BK160 := n1_
        have HB := n2_
        clear n0_ n1_ n2_
        have n0_ := Aside0.mk (blk_drew BK159.out)
        have n1_ := Aside0.mk (blk_drew BK160.out)
        have n2_ := Aside0.mk (below_drew1 HB.out)
        clear BK159
        clear BK160
        clear HB
        have BK159 := n0_
        have BK160 := n1_
        have HB := n2_
        clear n0_ n1_ n2_
        refine start_ (n := 8) (S := fun w' => w'.cell? ⟨gb159, 0, none⟩ = some (.int .u64 (IntKind.u64.wrap (x160000_1 + x160001_1))) ∧ w'.cell? ⟨gb159, 1, none⟩ = some (.int .u64 x160001_1) ∧ w'.cell? ⟨gb159, 2, none⟩ = some (.int .u64 x160002_1) ∧ w'.cell? ⟨gb159, 3, none⟩ = some (.int .u64 x160003_1)) (ds := [7]) #[false, false, false, false, false, false, false, false] (by kernel_rfl) rfl rfl ⟨(blk_cell BK159.out 0).trans rfl, (blk_cell BK159.out 1).trans rfl, (blk_cell BK159.out 2).trans rfl, (blk_cell BK159.out 3).trans rfl⟩ (fun hHeld => ?_); refine with_tabW samphireref05_turns.tab5 samphireref05_turns.bits5 (fun HT_ HW_ => ?_)
        generalize w14.drew = w15 at BK159 BK160 HB hHeld ⊢
        refine pure_ (i := 0) (N := some 17) (v := ?_) (a' := ?_) #[true, false, false, false, false, false, false, false] rfl rfl (any_of HT_.out (by kernel_rfl)) (fun _ _ _ h => h) (Or.inl ⟨by rfl, ?_⟩) ?_ ?_
        rotate_left
        · intro w'
          go_simp
          with_reducible rfl
        rotate_left
        · simp only [Act.put, List.setIfInBounds_toArray, List.set_cons_zero, List.set_cons_succ, i64_w, i32_w]
          rfl
        refine pure_ (i := 3) (N := some 20) (v := ?_) (a' := ?_) #[true, false, false, true, false, false, false, false] rfl rfl (any_of HT_.out (by kernel_rfl)) (fun _ _ _ h => h) (Or.inl ⟨by rfl, ?_⟩) ?_ ?_
        rotate_left
        · intro w'
          go_simp
          with_reducible rfl
        rotate_left
        · simp only [Act.put, List.setIfInBounds_toArray, List.set_cons_zero, List.set_cons_succ, i64_w, i32_w]
          rfl
        refine take_ (i := 1) (N := some 18) (v := ?_) (a' := ?_) #[true, true, false, true, false, false, false, false] rfl rfl (take_ofW HT_.out HW_.out (by kernel_rfl)) (fun _ _ _ h => h) (Or.inl ⟨by rfl, ?_⟩) hHeld ?_ ?_
        rotate_left
        · rintro w' ⟨s0, s1, s2, s3⟩
          go_simp
          with_reducible rfl
        rotate_left
        · simp only [Act.put, List.setIfInBounds_toArray, List.set_cons_zero, List.set_cons_succ, i64_w, i32_w]
          rfl
        refine take_ (i := 4) (N := some 21) (v := ?_) (a' := ?_) #[true, true, false, true, true, false, false, false] rfl rfl (take_ofW HT_.out HW_.out (by kernel_rfl)) (fun _ _ _ h => h) (Or.inl ⟨by rfl, ?_⟩) hHeld ?_ ?_
        rotate_left
        · rintro w' ⟨s0, s1, s2, s3⟩
          go_simp
          with_reducible rfl
        rotate_left
        · simp only [Act.put, List.setIfInBounds_toArray, List.set_cons_zero, List.set_cons_succ, i64_w, i32_w]
          rfl
        refine one_ (i := 2) (N := some 19) #[true, true, true, true, true, false, false, false] rfl rfl (one_of HT_.out (by kernel_rfl)) (by decide) (fun K hK => ?_)
        refine goes_ Try.func20 (by kernel_rfl) rfl #[.int .u64 x160001_1, .int .u64 13] (by rfl) rfl rfl (by (try simp only [List.map_toArray, List.map_cons, List.map_nil]); first | done | rfl | (simp only [List.length_drop, List.length_take]; rfl)) ?_
        with_reducible refine (samphireref05_left.calls x160001_1 13 t161 _ A6.out).mono ?_
        rintro e w16 ⟨rfl, hb⟩
        refine ⟨_, rfl, ?_⟩
        have n0_ := Aside0.mk (blk_below (g := gb159) (o := .cells #[.int .u64 (IntKind.u64.wrap (x160000_1 + x160001_1)), .int .u64 x160001_1, .int .u64 x160002_1, .int .u64 x160003_1] 29 (0, 0)) (by (with_reducible repeat (first | refine blk_drewN ?_ _ | refine blk_drew ?_ | refine blk_alloc ?_ _)); exact BK159.out) hb)
        have n1_ := Aside0.mk (blk_below (g := gb160) (o := .cells #[.int .u64 0, .int .u64 0, .int .u64 0, .int .u64 0] 29 (0, 0)) (by (with_reducible repeat (first | refine blk_drewN ?_ _ | refine blk_drew ?_ | refine blk_alloc ?_ _)); exact BK160.out) hb)
        have n2_ := Aside0.mk (below_step (by repeat (first | (with_reducible first | exact HB.out | apply below_alloc | apply pw_below_drewN | apply below_drew1 | refine below_set ?_ GE159.out | refine below_set ?_ GE160.out) | exact HB.out)) hb)
        clear BK159
        clear BK160
        clear HB
        have BK159 := n0_
        have BK160 := n1_
        have HB := n2_
        clear n0_ n1_ n2_
        (try clear hb)
        (try clear hb2)
        (try clear hk)
        (try clear hi)
        refine hK.out _ _ ⟨(blk_cell BK159.out 0).trans rfl, (blk_cell BK159.out 1).trans rfl, (blk_cell BK159.out 2).trans rfl, (blk_cell BK159.out 3).trans rfl⟩ (fun hHeld => ?_)
        clear hK K
        refine norm_ (a' := ?_) ?_ ?_
        rotate_left
        · show Act.put _ (some 19) _ = _
          simp only [Act.put, List.setIfInBounds_toArray, List.set_cons_zero, List.set_cons_succ, i64_w, i32_w]
          rfl
        refine pure_ (i := 5) (N := some 22) (v := ?_) (a' := ?_) #[true, true, true, true, true, true, false, false] rfl rfl (any_of HT_.out (by kernel_rfl)) (fun _ _ _ h => h) (Or.inl ⟨by rfl, ?_⟩) ?_ ?_
        rotate_left
        · intro w'
          go_simp
          with_reducible rfl
        rotate_left
        · simp only [Act.put, List.setIfInBounds_toArray, List.set_cons_zero, List.set_cons_succ, i64_w, i32_w]
          rfl
        refine pure_ (i := 6) (N := some 23) (v := ?_) (a' := ?_) #[true, true, true, true, true, true, true, false] rfl rfl (any_of HT_.out (by kernel_rfl)) (fun _ _ _ h => h) (Or.inl ⟨by rfl, ?_⟩) ?_ ?_
        rotate_left
        · intro w'
          go_simp
          with_reducible rfl
        rotate_left
        · simp only [Act.put, List.setIfInBounds_toArray, List.set_cons_zero, List.set_cons_succ, i64_w, i32_w]
          rfl
        refine last_ (i := 7) (N := none) #[true, true, true, true, true, true, true, true] rfl rfl (one_of HT_.out (by kernel_rfl)) (by decide) (fun K hK => ?_)
        have hs17 : w16.cell? ⟨gb159, 1, none⟩ = some (.int .u64 x160001_1) := (blk_cell BK159.out 1).trans rfl
        have hfs17 := blk_frozen BK159.out 1
        have hns17_1 := NB160_159.out
        have hms17_1 := NB159_160.out
        refine skip_ (w1 := ?_) (by rfl) rfl ?_ ?_
        rotate_left
        · go_simp
          rfl
        refine hK.out _ _ ?_
        clear hK K
        refine done_ (done_of HT_.out (by kernel_rfl)) ?_
        have hcz18_0 : w16.cell? ⟨gb159, 0, none⟩ = some (.int .u64 (IntKind.u64.wrap (x160000_1 + x160001_1))) := (blk_cell BK159.out 0).trans rfl
        have hcz18_1 : w16.cell? ⟨gb159, 1, none⟩ = some (.int .u64 x160001_1) := (blk_cell BK159.out 1).trans rfl
        have hcz18_2 : w16.cell? ⟨gb159, 2, none⟩ = some (.int .u64 x160002_1) := (blk_cell BK159.out 2).trans rfl
        have hcz18_3 : w16.cell? ⟨gb159, 3, none⟩ = some (.int .u64 x160003_1) := (blk_cell BK159.out 3).trans rfl
        have hfz18_0 := blk_frozen BK159.out 0
        have hfz18_1 := blk_frozen BK159.out 1
        have hfz18_2 := blk_frozen BK159.out 2
        have hfz18_3 := blk_frozen BK159.out 3
        try go_wp2_with (first | ((with_reducible refine gate_callee (f := 20) rfl ?_); refine goesL_ (some 26) rfl rfl Try.func20 (by kernel_rfl) rfl #[.int .u64 (IntKind.u64.wrap (x160000_1 + x160001_1)), .int .u64 32] rfl (by (try simp only [List.map_toArray, List.map_cons, List.map_nil]); first | done | rfl | (simp only [List.length_drop, List.length_take]; rfl)) ?_; (with_reducible refine (samphireref05_left.calls (IntKind.u64.wrap (x160000_1 + x160001_1)) 32 t162 _ A7.out).mono ?_); rintro e w19 ⟨rfl, hb⟩; refine ⟨_, rfl, ?_⟩; have n0_ := Aside0.mk (blk_below (g := gb159) (o := .cells #[.int .u64 (IntKind.u64.wrap (x160000_1 + x160001_1)), .int .u64 (Go.bits .xor .u64 t161 (IntKind.u64.wrap (x160000_1 + x160001_1))), .int .u64 x160002_1, .int .u64 x160003_1] 29 (0, 0)) (by (with_reducible repeat (first | refine blk_drewN ?_ _ | refine blk_drew ?_ | refine blk_alloc ?_ _)); refine blk_put (cs := #[.int .u64 (IntKind.u64.wrap (x160000_1 + x160001_1)), .int .u64 x160001_1, .int .u64 x160002_1, .int .u64 x160003_1]) ?_ 1 _ rfl; (with_reducible repeat (first | refine blk_drewN ?_ _ | refine blk_drew ?_ | refine blk_alloc ?_ _)); exact BK159.out) hb); have n1_ := Aside0.mk (blk_below (g := gb160) (o := .cells #[.int .u64 0, .int .u64 0, .int .u64 0, .int .u64 0] 29 (0, 0)) (by (with_reducible repeat (first | refine blk_drewN ?_ _ | refine blk_drew ?_ | refine blk_alloc ?_ _)); refine blk_far ?_ NB160_159.out _; (with_reducible repeat (first | refine blk_drewN ?_ _ | refine blk_drew ?_ | refine blk_alloc ?_ _)); exact BK160.out) hb); have n2_ := Aside0.mk (below_step (by repeat (first | (with_reducible first | exact HB.out | apply below_alloc | apply pw_below_drewN | apply below_drew1 | refine below_set ?_ GE159.out | refine below_set ?_ GE160.out) | exact HB.out)) hb); clear BK159; clear BK160; clear HB; have BK159 := n0_; have BK160 := n1_; have HB := n2_; clear n0_ n1_ n2_; (try clear hb); (try clear hb2); (try clear hk); (try clear hi); have hcz20_0 : w19.cell? ⟨gb159, 0, none⟩ = some (.int .u64 (IntKind.u64.wrap (x160000_1 + x160001_1))) := (blk_cell BK159.out 0).trans rfl; have hcz20_1 : w19.cell? ⟨gb159, 1, none⟩ = some (.int .u64 (Go.bits .xor .u64 t161 (IntKind.u64.wrap (x160000_1 + x160001_1)))) := (blk_cell BK159.out 1).trans rfl; have hcz20_2 : w19.cell? ⟨gb159, 2, none⟩ = some (.int .u64 x160002_1) := (blk_cell BK159.out 2).trans rfl; have hcz20_3 : w19.cell? ⟨gb159, 3, none⟩ = some (.int .u64 x160003_1) := (blk_cell BK159.out 3).trans rfl; have hfz20_0 := blk_frozen BK159.out 0; have hfz20_1 := blk_frozen BK159.out 1; have hfz20_2 := blk_frozen BK159.out 2; have hfz20_3 := blk_frozen BK159.out 3))
        have n0_ : Aside0 (((w19.setCell ⟨gb159, 0, none⟩ (.int .u64 t162)).setCell ⟨gb159, 2, none⟩ (.int .u64 (IntKind.u64.wrap (x160002_1 + x160003_1)))).heap[gb159]? = some (.cells #[.int .u64 t162, .int .u64 (Go.bits .xor .u64 t161 (IntKind.u64.wrap (x160000_1 + x160001_1))), .int .u64 (IntKind.u64.wrap (x160002_1 + x160003_1)), .int .u64 x160003_1] 29 (0, 0))) := ⟨by (with_reducible repeat (first | refine blk_drewN ?_ _ | refine blk_drew ?_ | refine blk_alloc ?_ _)); refine blk_put (cs := #[.int .u64 t162, .int .u64 (Go.bits .xor .u64 t161 (IntKind.u64.wrap (x160000_1 + x160001_1))), .int .u64 x160002_1, .int .u64 x160003_1]) ?_ 2 _ rfl; (with_reducible repeat (first | refine blk_drewN ?_ _ | refine blk_drew ?_ | refine blk_alloc ?_ _)); refine blk_put (cs := #[.int .u64 (IntKind.u64.wrap (x160000_1 + x160001_1)), .int .u64 (Go.bits .xor .u64 t161 (IntKind.u64.wrap (x160000_1 + x160001_1))), .int .u64 x160002_1, .int .u64 x160003_1]) ?_ 0 _ rfl; (with_reducible repeat (first | refine blk_drewN ?_ _ | refine blk_drew ?_ | refine blk_alloc ?_ _)); exact BK159.out⟩
        have n1_ : Aside0 (((w19.setCell ⟨gb159, 0, none⟩ (.int .u64 t162)).setCell ⟨gb159, 2, none⟩ (.int .u64 (IntKind.u64.wrap (x160002_1 + x160003_1)))).heap[gb160]? = some (.cells #[.int .u64 0, .int .u64 0, .int .u64 0, .int .u64 0] 29 (0, 0))) := ⟨by (with_reducible repeat (first | refine blk_drewN ?_ _ | refine blk_drew ?_ | refine blk_alloc ?_ _)); refine blk_far ?_ NB160_159.out _; (with_reducible repeat (first | refine blk_drewN ?_ _ | refine blk_drew ?_ | refine blk_alloc ?_ _)); refine blk_far ?_ NB160_159.out _; (with_reducible repeat (first | refine blk_drewN ?_ _ | refine blk_drew ?_ | refine blk_alloc ?_ _)); exact BK160.out⟩
        have n2_ : Aside0 (Below w.heap.size w ((w19.setCell ⟨gb159, 0, none⟩ (.int .u64 t162)).setCell ⟨gb159, 2, none⟩ (.int .u64 (IntKind.u64.wrap (x160002_1 + x160003_1))))) := ⟨by repeat (first | (with_reducible first | exact HB.out | apply below_alloc | apply pw_below_drewN | apply below_drew1 | refine below_set ?_ GE159.out | refine below_set ?_ GE160.out) | exact HB.out)⟩
        (try clear BK159)
        (try clear BK160)
        (try clear HB)
        generalize ((w19.setCell ⟨gb159, 0, none⟩ (.int .u64 t162)).setCell ⟨gb159, 2, none⟩ (.int .u64 (IntKind.u64.wrap (x160002_1 + x160003_1)))) = w21 at n0_ n1_ n2_ ⊢
        have BK159 := n0_
        have BK160 := n1_
        have HB := n2_
        clear n0_ n1_ n2_
        have n0_ := Aside0.mk (blk_drew BK159.out)
        have n1_ := Aside0.mk (blk_drew BK160.out)
        have n2_ := Aside0.mk (below_drew1 HB.out)
        clear BK159
        clear BK160
        clear HB
        have BK159 := n0_
        have BK160 := n1_
        have HB := n2_
        clear n0_ n1_ n2_
        refine start_ (n := 8) (S := fun w' => w'.cell? ⟨gb159, 0, none⟩ = some (.int .u64 t162) ∧ w'.cell? ⟨gb159, 1, none⟩ = some (.int .u64 (Go.bits .xor .u64 t161 (IntKind.u64.wrap (x160000_1 + x160001_1)))) ∧ w'.cell? ⟨gb159, 2, none⟩ = some (.int .u64 (IntKind.u64.wrap (x160002_1 + x160003_1))) ∧ w'.cell? ⟨gb159, 3, none⟩ = some (.int .u64 x160003_1)) (ds := [7]) #[false, false, false, false, false, false, false, false] (by kernel_rfl) rfl rfl ⟨(blk_cell BK159.out 0).trans rfl, (blk_cell BK159.out 1).trans rfl, (blk_cell BK159.out 2).trans rfl, (blk_cell BK159.out 3).trans rfl⟩ (fun hHeld => ?_); refine with_tabW samphireref05_turns.tab8 samphireref05_turns.bits8 (fun HT_ HW_ => ?_)
        generalize w21.drew = w22 at BK159 BK160 HB hHeld ⊢
        refine pure_ (i := 0) (N := some 34) (v := ?_) (a' := ?_) #[true, false, false, false, false, false, false, false] rfl rfl (any_of HT_.out (by kernel_rfl)) (fun _ _ _ h => h) (Or.inl ⟨by rfl, ?_⟩) ?_ ?_
        rotate_left
        · intro w'
          go_simp
          with_reducible rfl
        rotate_left
        · simp only [Act.put, List.setIfInBounds_toArray, List.set_cons_zero, List.set_cons_succ, i64_w, i32_w]
          rfl
        refine pure_ (i := 3) (N := some 37) (v := ?_) (a' := ?_) #[true, false, false, true, false, false, false, false] rfl rfl (any_of HT_.out (by kernel_rfl)) (fun _ _ _ h => h) (Or.inl ⟨by rfl, ?_⟩) ?_ ?_
        rotate_left
        · intro w'
          go_simp
          with_reducible rfl
        rotate_left
        · simp only [Act.put, List.setIfInBounds_toArray, List.set_cons_zero, List.set_cons_succ, i64_w, i32_w]
          rfl
        refine take_ (i := 1) (N := some 35) (v := ?_) (a' := ?_) #[true, true, false, true, false, false, false, false] rfl rfl (take_ofW HT_.out HW_.out (by kernel_rfl)) (fun _ _ _ h => h) (Or.inl ⟨by rfl, ?_⟩) hHeld ?_ ?_
        rotate_left
        · rintro w' ⟨s0, s1, s2, s3⟩
          go_simp
          with_reducible rfl
        rotate_left
        · simp only [Act.put, List.setIfInBounds_toArray, List.set_cons_zero, List.set_cons_succ, i64_w, i32_w]
          rfl
        refine take_ (i := 4) (N := some 38) (v := ?_) (a' := ?_) #[true, true, false, true, true, false, false, false] rfl rfl (take_ofW HT_.out HW_.out (by kernel_rfl)) (fun _ _ _ h => h) (Or.inl ⟨by rfl, ?_⟩) hHeld ?_ ?_
        rotate_left
        · rintro w' ⟨s0, s1, s2, s3⟩
          go_simp
          with_reducible rfl
        rotate_left
        · simp only [Act.put, List.setIfInBounds_toArray, List.set_cons_zero, List.set_cons_succ, i64_w, i32_w]
          rfl
        refine one_ (i := 2) (N := some 36) #[true, true, true, true, true, false, false, false] rfl rfl (one_of HT_.out (by kernel_rfl)) (by decide) (fun K hK => ?_)
        refine goes_ Try.func20 (by kernel_rfl) rfl #[.int .u64 x160003_1, .int .u64 16] (by rfl) rfl rfl (by (try simp only [List.map_toArray, List.map_cons, List.map_nil]); first | done | rfl | (simp only [List.length_drop, List.length_take]; rfl)) ?_
        with_reducible refine (samphireref05_left.calls x160003_1 16 t163 _ A8.out).mono ?_
        rintro e w23 ⟨rfl, hb⟩
        refine ⟨_, rfl, ?_⟩
        have n0_ := Aside0.mk (blk_below (g := gb159) (o := .cells #[.int .u64 t162, .int .u64 (Go.bits .xor .u64 t161 (IntKind.u64.wrap (x160000_1 + x160001_1))), .int .u64 (IntKind.u64.wrap (x160002_1 + x160003_1)), .int .u64 x160003_1] 29 (0, 0)) (by (with_reducible repeat (first | refine blk_drewN ?_ _ | refine blk_drew ?_ | refine blk_alloc ?_ _)); exact BK159.out) hb)
        have n1_ := Aside0.mk (blk_below (g := gb160) (o := .cells #[.int .u64 0, .int .u64 0, .int .u64 0, .int .u64 0] 29 (0, 0)) (by (with_reducible repeat (first | refine blk_drewN ?_ _ | refine blk_drew ?_ | refine blk_alloc ?_ _)); exact BK160.out) hb)
        have n2_ := Aside0.mk (below_step (by repeat (first | (with_reducible first | exact HB.out | apply below_alloc | apply pw_below_drewN | apply below_drew1 | refine below_set ?_ GE159.out | refine below_set ?_ GE160.out) | exact HB.out)) hb)
        clear BK159
        clear BK160
        clear HB
        have BK159 := n0_
        have BK160 := n1_
        have HB := n2_
        clear n0_ n1_ n2_
        (try clear hb)
        (try clear hb2)
        (try clear hk)
        (try clear hi)
        refine hK.out _ _ ⟨(blk_cell BK159.out 0).trans rfl, (blk_cell BK159.out 1).trans rfl, (blk_cell BK159.out 2).trans rfl, (blk_cell BK159.out 3).trans rfl⟩ (fun hHeld => ?_)
        clear hK K
        refine norm_ (a' := ?_) ?_ ?_
        rotate_left
        · show Act.put _ (some 36) _ = _
          simp only [Act.put, List.setIfInBounds_toArray, List.set_cons_zero, List.set_cons_succ, i64_w, i32_w]
          rfl
        refine pure_ (i := 5) (N := some 39) (v := ?_) (a' := ?_) #[true, true, true, true, true, true, false, false] rfl rfl (any_of HT_.out (by kernel_rfl)) (fun _ _ _ h => h) (Or.inl ⟨by rfl, ?_⟩) ?_ ?_
        rotate_left
        · intro w'
          go_simp
          with_reducible rfl
        rotate_left
        · simp only [Act.put, List.setIfInBounds_toArray, List.set_cons_zero, List.set_cons_succ, i64_w, i32_w]
          rfl
        refine pure_ (i := 6) (N := some 40) (v := ?_) (a' := ?_) #[true, true, true, true, true, true, true, false] rfl rfl (any_of HT_.out (by kernel_rfl)) (fun _ _ _ h => h) (Or.inl ⟨by rfl, ?_⟩) ?_ ?_
        rotate_left
        · intro w'
          go_simp
          with_reducible rfl
        rotate_left
        · simp only [Act.put, List.setIfInBounds_toArray, List.set_cons_zero, List.set_cons_succ, i64_w, i32_w]
          rfl
        refine last_ (i := 7) (N := none) #[true, true, true, true, true, true, true, true] rfl rfl (one_of HT_.out (by kernel_rfl)) (by decide) (fun K hK => ?_)
        have hs24 : w23.cell? ⟨gb159, 3, none⟩ = some (.int .u64 x160003_1) := (blk_cell BK159.out 3).trans rfl
        have hfs24 := blk_frozen BK159.out 3
        have hns24_1 := NB160_159.out
        have hms24_1 := NB159_160.out
        refine skip_ (w1 := ?_) (by rfl) rfl ?_ ?_
        rotate_left
        · go_simp
          rfl
        refine hK.out _ _ ?_
        clear hK K
        refine done_ (done_of HT_.out (by kernel_rfl)) ?_
        have hcz25_0 : w23.cell? ⟨gb159, 0, none⟩ = some (.int .u64 t162) := (blk_cell BK159.out 0).trans rfl
        have hcz25_1 : w23.cell? ⟨gb159, 1, none⟩ = some (.int .u64 (Go.bits .xor .u64 t161 (IntKind.u64.wrap (x160000_1 + x160001_1)))) := (blk_cell BK159.out 1).trans rfl
        have hcz25_2 : w23.cell? ⟨gb159, 2, none⟩ = some (.int .u64 (IntKind.u64.wrap (x160002_1 + x160003_1))) := (blk_cell BK159.out 2).trans rfl
        have hcz25_3 : w23.cell? ⟨gb159, 3, none⟩ = some (.int .u64 x160003_1) := (blk_cell BK159.out 3).trans rfl
        have hfz25_0 := blk_frozen BK159.out 0
        have hfz25_1 := blk_frozen BK159.out 1
        have hfz25_2 := blk_frozen BK159.out 2
        have hfz25_3 := blk_frozen BK159.out 3
        try go_wp2
        have n0_ : Aside0 (((w23.setCell ⟨gb159, 3, none⟩ (.int .u64 (Go.bits .xor .u64 t163 (IntKind.u64.wrap (x160002_1 + x160003_1))))).setCell ⟨gb159, 0, none⟩ (.int .u64 (IntKind.u64.wrap (t162 + (Go.bits .xor .u64 t163 (IntKind.u64.wrap (x160002_1 + x160003_1))))))).heap[gb159]? = some (.cells #[.int .u64 (IntKind.u64.wrap (t162 + (Go.bits .xor .u64 t163 (IntKind.u64.wrap (x160002_1 + x160003_1))))), .int .u64 (Go.bits .xor .u64 t161 (IntKind.u64.wrap (x160000_1 + x160001_1))), .int .u64 (IntKind.u64.wrap (x160002_1 + x160003_1)), .int .u64 (Go.bits .xor .u64 t163 (IntKind.u64.wrap (x160002_1 + x160003_1)))] 29 (0, 0))) := ⟨by (with_reducible repeat (first | refine blk_drewN ?_ _ | refine blk_drew ?_ | refine blk_alloc ?_ _)); refine blk_put (cs := #[.int .u64 t162, .int .u64 (Go.bits .xor .u64 t161 (IntKind.u64.wrap (x160000_1 + x160001_1))), .int .u64 (IntKind.u64.wrap (x160002_1 + x160003_1)), .int .u64 (Go.bits .xor .u64 t163 (IntKind.u64.wrap (x160002_1 + x160003_1)))]) ?_ 0 _ rfl; (with_reducible repeat (first | refine blk_drewN ?_ _ | refine blk_drew ?_ | refine blk_alloc ?_ _)); refine blk_put (cs := #[.int .u64 t162, .int .u64 (Go.bits .xor .u64 t161 (IntKind.u64.wrap (x160000_1 + x160001_1))), .int .u64 (IntKind.u64.wrap (x160002_1 + x160003_1)), .int .u64 x160003_1]) ?_ 3 _ rfl; (with_reducible repeat (first | refine blk_drewN ?_ _ | refine blk_drew ?_ | refine blk_alloc ?_ _)); exact BK159.out⟩
        have n1_ : Aside0 (((w23.setCell ⟨gb159, 3, none⟩ (.int .u64 (Go.bits .xor .u64 t163 (IntKind.u64.wrap (x160002_1 + x160003_1))))).setCell ⟨gb159, 0, none⟩ (.int .u64 (IntKind.u64.wrap (t162 + (Go.bits .xor .u64 t163 (IntKind.u64.wrap (x160002_1 + x160003_1))))))).heap[gb160]? = some (.cells #[.int .u64 0, .int .u64 0, .int .u64 0, .int .u64 0] 29 (0, 0))) := ⟨by (with_reducible repeat (first | refine blk_drewN ?_ _ | refine blk_drew ?_ | refine blk_alloc ?_ _)); refine blk_far ?_ NB160_159.out _; (with_reducible repeat (first | refine blk_drewN ?_ _ | refine blk_drew ?_ | refine blk_alloc ?_ _)); refine blk_far ?_ NB160_159.out _; (with_reducible repeat (first | refine blk_drewN ?_ _ | refine blk_drew ?_ | refine blk_alloc ?_ _)); exact BK160.out⟩
        have n2_ : Aside0 (Below w.heap.size w ((w23.setCell ⟨gb159, 3, none⟩ (.int .u64 (Go.bits .xor .u64 t163 (IntKind.u64.wrap (x160002_1 + x160003_1))))).setCell ⟨gb159, 0, none⟩ (.int .u64 (IntKind.u64.wrap (t162 + (Go.bits .xor .u64 t163 (IntKind.u64.wrap (x160002_1 + x160003_1)))))))) := ⟨by repeat (first | (with_reducible first | exact HB.out | apply below_alloc | apply pw_below_drewN | apply below_drew1 | refine below_set ?_ GE159.out | refine below_set ?_ GE160.out) | exact HB.out)⟩
        (try clear BK159)
        (try clear BK160)
        (try clear HB)
        generalize ((w23.setCell ⟨gb159, 3, none⟩ (.int .u64 (Go.bits .xor .u64 t163 (IntKind.u64.wrap (x160002_1 + x160003_1))))).setCell ⟨gb159, 0, none⟩ (.int .u64 (IntKind.u64.wrap (t162 + (Go.bits .xor .u64 t163 (IntKind.u64.wrap (x160002_1 + x160003_1))))))) = w26 at n0_ n1_ n2_ ⊢
        have BK159 := n0_
        have BK160 := n1_
        have HB := n2_
        clear n0_ n1_ n2_
        have n0_ := Aside0.mk (blk_drew BK159.out)
        have n1_ := Aside0.mk (blk_drew BK160.out)
        have n2_ := Aside0.mk (below_drew1 HB.out)
        clear BK159
        clear BK160
        clear HB
        have BK159 := n0_
        have BK160 := n1_
        have HB := n2_
        clear n0_ n1_ n2_
        refine start_ (n := 8) (S := fun w' => w'.cell? ⟨gb159, 0, none⟩ = some (.int .u64 (IntKind.u64.wrap (t162 + (Go.bits .xor .u64 t163 (IntKind.u64.wrap (x160002_1 + x160003_1)))))) ∧ w'.cell? ⟨gb159, 1, none⟩ = some (.int .u64 (Go.bits .xor .u64 t161 (IntKind.u64.wrap (x160000_1 + x160001_1)))) ∧ w'.cell? ⟨gb159, 2, none⟩ = some (.int .u64 (IntKind.u64.wrap (x160002_1 + x160003_1))) ∧ w'.cell? ⟨gb159, 3, none⟩ = some (.int .u64 (Go.bits .xor .u64 t163 (IntKind.u64.wrap (x160002_1 + x160003_1))))) (ds := [7]) #[false, false, false, false, false, false, false, false] (by kernel_rfl) rfl rfl ⟨(blk_cell BK159.out 0).trans rfl, (blk_cell BK159.out 1).trans rfl, (blk_cell BK159.out 2).trans rfl, (blk_cell BK159.out 3).trans rfl⟩ (fun hHeld => ?_); refine with_tabW samphireref05_turns.tab10 samphireref05_turns.bits10 (fun HT_ HW_ => ?_)
        generalize w26.drew = w27 at BK159 BK160 HB hHeld ⊢
        refine pure_ (i := 0) (N := some 47) (v := ?_) (a' := ?_) #[true, false, false, false, false, false, false, false] rfl rfl (any_of HT_.out (by kernel_rfl)) (fun _ _ _ h => h) (Or.inl ⟨by rfl, ?_⟩) ?_ ?_
        rotate_left
        · intro w'
          go_simp
          with_reducible rfl
        rotate_left
        · simp only [Act.put, List.setIfInBounds_toArray, List.set_cons_zero, List.set_cons_succ, i64_w, i32_w]
          rfl
        refine pure_ (i := 3) (N := some 50) (v := ?_) (a' := ?_) #[true, false, false, true, false, false, false, false] rfl rfl (any_of HT_.out (by kernel_rfl)) (fun _ _ _ h => h) (Or.inl ⟨by rfl, ?_⟩) ?_ ?_
        rotate_left
        · intro w'
          go_simp
          with_reducible rfl
        rotate_left
        · simp only [Act.put, List.setIfInBounds_toArray, List.set_cons_zero, List.set_cons_succ, i64_w, i32_w]
          rfl
        refine take_ (i := 1) (N := some 48) (v := ?_) (a' := ?_) #[true, true, false, true, false, false, false, false] rfl rfl (take_ofW HT_.out HW_.out (by kernel_rfl)) (fun _ _ _ h => h) (Or.inl ⟨by rfl, ?_⟩) hHeld ?_ ?_
        rotate_left
        · rintro w' ⟨s0, s1, s2, s3⟩
          go_simp
          with_reducible rfl
        rotate_left
        · simp only [Act.put, List.setIfInBounds_toArray, List.set_cons_zero, List.set_cons_succ, i64_w, i32_w]
          rfl
        refine take_ (i := 4) (N := some 51) (v := ?_) (a' := ?_) #[true, true, false, true, true, false, false, false] rfl rfl (take_ofW HT_.out HW_.out (by kernel_rfl)) (fun _ _ _ h => h) (Or.inl ⟨by rfl, ?_⟩) hHeld ?_ ?_
        rotate_left
        · rintro w' ⟨s0, s1, s2, s3⟩
          go_simp
          with_reducible rfl
        rotate_left
        · simp only [Act.put, List.setIfInBounds_toArray, List.set_cons_zero, List.set_cons_succ, i64_w, i32_w]
          rfl
        refine one_ (i := 2) (N := some 49) #[true, true, true, true, true, false, false, false] rfl rfl (one_of HT_.out (by kernel_rfl)) (by decide) (fun K hK => ?_)
        refine goes_ Try.func20 (by kernel_rfl) rfl #[.int .u64 (Go.bits .xor .u64 t163 (IntKind.u64.wrap (x160002_1 + x160003_1))), .int .u64 21] (by rfl) rfl rfl (by (try simp only [List.map_toArray, List.map_cons, List.map_nil]); first | done | rfl | (simp only [List.length_drop, List.length_take]; rfl)) ?_
        with_reducible refine (samphireref05_left.calls (Go.bits .xor .u64 t163 (IntKind.u64.wrap (x160002_1 + x160003_1))) 21 t164 _ A9.out).mono ?_
        rintro e w28 ⟨rfl, hb⟩
        refine ⟨_, rfl, ?_⟩
        have n0_ := Aside0.mk (blk_below (g := gb159) (o := .cells #[.int .u64 (IntKind.u64.wrap (t162 + (Go.bits .xor .u64 t163 (IntKind.u64.wrap (x160002_1 + x160003_1))))), .int .u64 (Go.bits .xor .u64 t161 (IntKind.u64.wrap (x160000_1 + x160001_1))), .int .u64 (IntKind.u64.wrap (x160002_1 + x160003_1)), .int .u64 (Go.bits .xor .u64 t163 (IntKind.u64.wrap (x160002_1 + x160003_1)))] 29 (0, 0)) (by (with_reducible repeat (first | refine blk_drewN ?_ _ | refine blk_drew ?_ | refine blk_alloc ?_ _)); exact BK159.out) hb)
        have n1_ := Aside0.mk (blk_below (g := gb160) (o := .cells #[.int .u64 0, .int .u64 0, .int .u64 0, .int .u64 0] 29 (0, 0)) (by (with_reducible repeat (first | refine blk_drewN ?_ _ | refine blk_drew ?_ | refine blk_alloc ?_ _)); exact BK160.out) hb)
        have n2_ := Aside0.mk (below_step (by repeat (first | (with_reducible first | exact HB.out | apply below_alloc | apply pw_below_drewN | apply below_drew1 | refine below_set ?_ GE159.out | refine below_set ?_ GE160.out) | exact HB.out)) hb)
        clear BK159
        clear BK160
        clear HB
        have BK159 := n0_
        have BK160 := n1_
        have HB := n2_
        clear n0_ n1_ n2_
        (try clear hb)
        (try clear hb2)
        (try clear hk)
        (try clear hi)
        refine hK.out _ _ ⟨(blk_cell BK159.out 0).trans rfl, (blk_cell BK159.out 1).trans rfl, (blk_cell BK159.out 2).trans rfl, (blk_cell BK159.out 3).trans rfl⟩ (fun hHeld => ?_)
        clear hK K
        refine norm_ (a' := ?_) ?_ ?_
        rotate_left
        · show Act.put _ (some 49) _ = _
          simp only [Act.put, List.setIfInBounds_toArray, List.set_cons_zero, List.set_cons_succ, i64_w, i32_w]
          rfl
        refine pure_ (i := 5) (N := some 52) (v := ?_) (a' := ?_) #[true, true, true, true, true, true, false, false] rfl rfl (any_of HT_.out (by kernel_rfl)) (fun _ _ _ h => h) (Or.inl ⟨by rfl, ?_⟩) ?_ ?_
        rotate_left
        · intro w'
          go_simp
          with_reducible rfl
        rotate_left
        · simp only [Act.put, List.setIfInBounds_toArray, List.set_cons_zero, List.set_cons_succ, i64_w, i32_w]
          rfl
        refine pure_ (i := 6) (N := some 53) (v := ?_) (a' := ?_) #[true, true, true, true, true, true, true, false] rfl rfl (any_of HT_.out (by kernel_rfl)) (fun _ _ _ h => h) (Or.inl ⟨by rfl, ?_⟩) ?_ ?_
        rotate_left
        · intro w'
          go_simp
          with_reducible rfl
        rotate_left
        · simp only [Act.put, List.setIfInBounds_toArray, List.set_cons_zero, List.set_cons_succ, i64_w, i32_w]
          rfl
        refine last_ (i := 7) (N := none) #[true, true, true, true, true, true, true, true] rfl rfl (one_of HT_.out (by kernel_rfl)) (by decide) (fun K hK => ?_)
        have hs29 : w28.cell? ⟨gb159, 3, none⟩ = some (.int .u64 (Go.bits .xor .u64 t163 (IntKind.u64.wrap (x160002_1 + x160003_1)))) := (blk_cell BK159.out 3).trans rfl
        have hfs29 := blk_frozen BK159.out 3
        have hns29_1 := NB160_159.out
        have hms29_1 := NB159_160.out
        refine skip_ (w1 := ?_) (by rfl) rfl ?_ ?_
        rotate_left
        · go_simp
          rfl
        refine hK.out _ _ ?_
        clear hK K
        refine done_ (done_of HT_.out (by kernel_rfl)) ?_
        have hcz30_0 : w28.cell? ⟨gb159, 0, none⟩ = some (.int .u64 (IntKind.u64.wrap (t162 + (Go.bits .xor .u64 t163 (IntKind.u64.wrap (x160002_1 + x160003_1)))))) := (blk_cell BK159.out 0).trans rfl
        have hcz30_1 : w28.cell? ⟨gb159, 1, none⟩ = some (.int .u64 (Go.bits .xor .u64 t161 (IntKind.u64.wrap (x160000_1 + x160001_1)))) := (blk_cell BK159.out 1).trans rfl
        have hcz30_2 : w28.cell? ⟨gb159, 2, none⟩ = some (.int .u64 (IntKind.u64.wrap (x160002_1 + x160003_1))) := (blk_cell BK159.out 2).trans rfl
        have hcz30_3 : w28.cell? ⟨gb159, 3, none⟩ = some (.int .u64 (Go.bits .xor .u64 t163 (IntKind.u64.wrap (x160002_1 + x160003_1)))) := (blk_cell BK159.out 3).trans rfl
        have hfz30_0 := blk_frozen BK159.out 0
        have hfz30_1 := blk_frozen BK159.out 1
        have hfz30_2 := blk_frozen BK159.out 2
        have hfz30_3 := blk_frozen BK159.out 3
        try go_wp2
        have n0_ : Aside0 (((w28.setCell ⟨gb159, 3, none⟩ (.int .u64 (Go.bits .xor .u64 t164 (IntKind.u64.wrap (t162 + (Go.bits .xor .u64 t163 (IntKind.u64.wrap (x160002_1 + x160003_1)))))))).setCell ⟨gb159, 2, none⟩ (.int .u64 (IntKind.u64.wrap ((IntKind.u64.wrap (x160002_1 + x160003_1)) + (Go.bits .xor .u64 t161 (IntKind.u64.wrap (x160000_1 + x160001_1))))))).heap[gb159]? = some (.cells #[.int .u64 (IntKind.u64.wrap (t162 + (Go.bits .xor .u64 t163 (IntKind.u64.wrap (x160002_1 + x160003_1))))), .int .u64 (Go.bits .xor .u64 t161 (IntKind.u64.wrap (x160000_1 + x160001_1))), .int .u64 (IntKind.u64.wrap ((IntKind.u64.wrap (x160002_1 + x160003_1)) + (Go.bits .xor .u64 t161 (IntKind.u64.wrap (x160000_1 + x160001_1))))), .int .u64 (Go.bits .xor .u64 t164 (IntKind.u64.wrap (t162 + (Go.bits .xor .u64 t163 (IntKind.u64.wrap (x160002_1 + x160003_1))))))] 29 (0, 0))) := ⟨by (with_reducible repeat (first | refine blk_drewN ?_ _ | refine blk_drew ?_ | refine blk_alloc ?_ _)); refine blk_put (cs := #[.int .u64 (IntKind.u64.wrap (t162 + (Go.bits .xor .u64 t163 (IntKind.u64.wrap (x160002_1 + x160003_1))))), .int .u64 (Go.bits .xor .u64 t161 (IntKind.u64.wrap (x160000_1 + x160001_1))), .int .u64 (IntKind.u64.wrap (x160002_1 + x160003_1)), .int .u64 (Go.bits .xor .u64 t164 (IntKind.u64.wrap (t162 + (Go.bits .xor .u64 t163 (IntKind.u64.wrap (x160002_1 + x160003_1))))))]) ?_ 2 _ rfl; (with_reducible repeat (first | refine blk_drewN ?_ _ | refine blk_drew ?_ | refine blk_alloc ?_ _)); refine blk_put (cs := #[.int .u64 (IntKind.u64.wrap (t162 + (Go.bits .xor .u64 t163 (IntKind.u64.wrap (x160002_1 + x160003_1))))), .int .u64 (Go.bits .xor .u64 t161 (IntKind.u64.wrap (x160000_1 + x160001_1))), .int .u64 (IntKind.u64.wrap (x160002_1 + x160003_1)), .int .u64 (Go.bits .xor .u64 t163 (IntKind.u64.wrap (x160002_1 + x160003_1)))]) ?_ 3 _ rfl; (with_reducible repeat (first | refine blk_drewN ?_ _ | refine blk_drew ?_ | refine blk_alloc ?_ _)); exact BK159.out⟩
        have n1_ : Aside0 (((w28.setCell ⟨gb159, 3, none⟩ (.int .u64 (Go.bits .xor .u64 t164 (IntKind.u64.wrap (t162 + (Go.bits .xor .u64 t163 (IntKind.u64.wrap (x160002_1 + x160003_1)))))))).setCell ⟨gb159, 2, none⟩ (.int .u64 (IntKind.u64.wrap ((IntKind.u64.wrap (x160002_1 + x160003_1)) + (Go.bits .xor .u64 t161 (IntKind.u64.wrap (x160000_1 + x160001_1))))))).heap[gb160]? = some (.cells #[.int .u64 0, .int .u64 0, .int .u64 0, .int .u64 0] 29 (0, 0))) := ⟨by (with_reducible repeat (first | refine blk_drewN ?_ _ | refine blk_drew ?_ | refine blk_alloc ?_ _)); refine blk_far ?_ NB160_159.out _; (with_reducible repeat (first | refine blk_drewN ?_ _ | refine blk_drew ?_ | refine blk_alloc ?_ _)); refine blk_far ?_ NB160_159.out _; (with_reducible repeat (first | refine blk_drewN ?_ _ | refine blk_drew ?_ | refine blk_alloc ?_ _)); exact BK160.out⟩
        have n2_ : Aside0 (Below w.heap.size w ((w28.setCell ⟨gb159, 3, none⟩ (.int .u64 (Go.bits .xor .u64 t164 (IntKind.u64.wrap (t162 + (Go.bits .xor .u64 t163 (IntKind.u64.wrap (x160002_1 + x160003_1)))))))).setCell ⟨gb159, 2, none⟩ (.int .u64 (IntKind.u64.wrap ((IntKind.u64.wrap (x160002_1 + x160003_1)) + (Go.bits .xor .u64 t161 (IntKind.u64.wrap (x160000_1 + x160001_1)))))))) := ⟨by repeat (first | (with_reducible first | exact HB.out | apply below_alloc | apply pw_below_drewN | apply below_drew1 | refine below_set ?_ GE159.out | refine below_set ?_ GE160.out) | exact HB.out)⟩
        (try clear BK159)
        (try clear BK160)
        (try clear HB)
        generalize ((w28.setCell ⟨gb159, 3, none⟩ (.int .u64 (Go.bits .xor .u64 t164 (IntKind.u64.wrap (t162 + (Go.bits .xor .u64 t163 (IntKind.u64.wrap (x160002_1 + x160003_1)))))))).setCell ⟨gb159, 2, none⟩ (.int .u64 (IntKind.u64.wrap ((IntKind.u64.wrap (x160002_1 + x160003_1)) + (Go.bits .xor .u64 t161 (IntKind.u64.wrap (x160000_1 + x160001_1))))))) = w31 at n0_ n1_ n2_ ⊢
        have BK159 := n0_
        have BK160 := n1_
        have HB := n2_
        clear n0_ n1_ n2_
        have n0_ := Aside0.mk (blk_drew BK159.out)
        have n1_ := Aside0.mk (blk_drew BK160.out)
        have n2_ := Aside0.mk (below_drew1 HB.out)
        clear BK159
        clear BK160
        clear HB
        have BK159 := n0_
        have BK160 := n1_
        have HB := n2_
        clear n0_ n1_ n2_
        refine start_ (n := 8) (S := fun w' => w'.cell? ⟨gb159, 0, none⟩ = some (.int .u64 (IntKind.u64.wrap (t162 + (Go.bits .xor .u64 t163 (IntKind.u64.wrap (x160002_1 + x160003_1)))))) ∧ w'.cell? ⟨gb159, 1, none⟩ = some (.int .u64 (Go.bits .xor .u64 t161 (IntKind.u64.wrap (x160000_1 + x160001_1)))) ∧ w'.cell? ⟨gb159, 2, none⟩ = some (.int .u64 (IntKind.u64.wrap ((IntKind.u64.wrap (x160002_1 + x160003_1)) + (Go.bits .xor .u64 t161 (IntKind.u64.wrap (x160000_1 + x160001_1)))))) ∧ w'.cell? ⟨gb159, 3, none⟩ = some (.int .u64 (Go.bits .xor .u64 t164 (IntKind.u64.wrap (t162 + (Go.bits .xor .u64 t163 (IntKind.u64.wrap (x160002_1 + x160003_1)))))))) (ds := [7]) #[false, false, false, false, false, false, false, false] (by kernel_rfl) rfl rfl ⟨(blk_cell BK159.out 0).trans rfl, (blk_cell BK159.out 1).trans rfl, (blk_cell BK159.out 2).trans rfl, (blk_cell BK159.out 3).trans rfl⟩ (fun hHeld => ?_); refine with_tabW samphireref05_turns.tab12 samphireref05_turns.bits12 (fun HT_ HW_ => ?_)
        generalize w31.drew = w32 at BK159 BK160 HB hHeld ⊢
        refine pure_ (i := 0) (N := some 60) (v := ?_) (a' := ?_) #[true, false, false, false, false, false, false, false] rfl rfl (any_of HT_.out (by kernel_rfl)) (fun _ _ _ h => h) (Or.inl ⟨by rfl, ?_⟩) ?_ ?_
        rotate_left
        · intro w'
          go_simp
          with_reducible rfl
        rotate_left
        · simp only [Act.put, List.setIfInBounds_toArray, List.set_cons_zero, List.set_cons_succ, i64_w, i32_w]
          rfl
        refine pure_ (i := 3) (N := some 63) (v := ?_) (a' := ?_) #[true, false, false, true, false, false, false, false] rfl rfl (any_of HT_.out (by kernel_rfl)) (fun _ _ _ h => h) (Or.inl ⟨by rfl, ?_⟩) ?_ ?_
        rotate_left
        · intro w'
          go_simp
          with_reducible rfl
        rotate_left
        · simp only [Act.put, List.setIfInBounds_toArray, List.set_cons_zero, List.set_cons_succ, i64_w, i32_w]
          rfl
        refine take_ (i := 1) (N := some 61) (v := ?_) (a' := ?_) #[true, true, false, true, false, false, false, false] rfl rfl (take_ofW HT_.out HW_.out (by kernel_rfl)) (fun _ _ _ h => h) (Or.inl ⟨by rfl, ?_⟩) hHeld ?_ ?_
        rotate_left
        · rintro w' ⟨s0, s1, s2, s3⟩
          go_simp
          with_reducible rfl
        rotate_left
        · simp only [Act.put, List.setIfInBounds_toArray, List.set_cons_zero, List.set_cons_succ, i64_w, i32_w]
          rfl
        refine take_ (i := 4) (N := some 64) (v := ?_) (a' := ?_) #[true, true, false, true, true, false, false, false] rfl rfl (take_ofW HT_.out HW_.out (by kernel_rfl)) (fun _ _ _ h => h) (Or.inl ⟨by rfl, ?_⟩) hHeld ?_ ?_
        rotate_left
        · rintro w' ⟨s0, s1, s2, s3⟩
          go_simp
          with_reducible rfl
        rotate_left
        · simp only [Act.put, List.setIfInBounds_toArray, List.set_cons_zero, List.set_cons_succ, i64_w, i32_w]
          rfl
        refine one_ (i := 2) (N := some 62) #[true, true, true, true, true, false, false, false] rfl rfl (one_of HT_.out (by kernel_rfl)) (by decide) (fun K hK => ?_)
        refine goes_ Try.func20 (by kernel_rfl) rfl #[.int .u64 (Go.bits .xor .u64 t161 (IntKind.u64.wrap (x160000_1 + x160001_1))), .int .u64 17] (by rfl) rfl rfl (by (try simp only [List.map_toArray, List.map_cons, List.map_nil]); first | done | rfl | (simp only [List.length_drop, List.length_take]; rfl)) ?_
        with_reducible refine (samphireref05_left.calls (Go.bits .xor .u64 t161 (IntKind.u64.wrap (x160000_1 + x160001_1))) 17 t165 _ A10.out).mono ?_
        rintro e w33 ⟨rfl, hb⟩
        refine ⟨_, rfl, ?_⟩
        have n0_ := Aside0.mk (blk_below (g := gb159) (o := .cells #[.int .u64 (IntKind.u64.wrap (t162 + (Go.bits .xor .u64 t163 (IntKind.u64.wrap (x160002_1 + x160003_1))))), .int .u64 (Go.bits .xor .u64 t161 (IntKind.u64.wrap (x160000_1 + x160001_1))), .int .u64 (IntKind.u64.wrap ((IntKind.u64.wrap (x160002_1 + x160003_1)) + (Go.bits .xor .u64 t161 (IntKind.u64.wrap (x160000_1 + x160001_1))))), .int .u64 (Go.bits .xor .u64 t164 (IntKind.u64.wrap (t162 + (Go.bits .xor .u64 t163 (IntKind.u64.wrap (x160002_1 + x160003_1))))))] 29 (0, 0)) (by (with_reducible repeat (first | refine blk_drewN ?_ _ | refine blk_drew ?_ | refine blk_alloc ?_ _)); exact BK159.out) hb)
        have n1_ := Aside0.mk (blk_below (g := gb160) (o := .cells #[.int .u64 0, .int .u64 0, .int .u64 0, .int .u64 0] 29 (0, 0)) (by (with_reducible repeat (first | refine blk_drewN ?_ _ | refine blk_drew ?_ | refine blk_alloc ?_ _)); exact BK160.out) hb)
        have n2_ := Aside0.mk (below_step (by repeat (first | (with_reducible first | exact HB.out | apply below_alloc | apply pw_below_drewN | apply below_drew1 | refine below_set ?_ GE159.out | refine below_set ?_ GE160.out) | exact HB.out)) hb)
        clear BK159
        clear BK160
        clear HB
        have BK159 := n0_
        have BK160 := n1_
        have HB := n2_
        clear n0_ n1_ n2_
        (try clear hb)
        (try clear hb2)
        (try clear hk)
        (try clear hi)
        refine hK.out _ _ ⟨(blk_cell BK159.out 0).trans rfl, (blk_cell BK159.out 1).trans rfl, (blk_cell BK159.out 2).trans rfl, (blk_cell BK159.out 3).trans rfl⟩ (fun hHeld => ?_)
        clear hK K
        refine norm_ (a' := ?_) ?_ ?_
        rotate_left
        · show Act.put _ (some 62) _ = _
          simp only [Act.put, List.setIfInBounds_toArray, List.set_cons_zero, List.set_cons_succ, i64_w, i32_w]
          rfl
        refine pure_ (i := 5) (N := some 65) (v := ?_) (a' := ?_) #[true, true, true, true, true, true, false, false] rfl rfl (any_of HT_.out (by kernel_rfl)) (fun _ _ _ h => h) (Or.inl ⟨by rfl, ?_⟩) ?_ ?_
        rotate_left
        · intro w'
          go_simp
          with_reducible rfl
        rotate_left
        · simp only [Act.put, List.setIfInBounds_toArray, List.set_cons_zero, List.set_cons_succ, i64_w, i32_w]
          rfl
        refine pure_ (i := 6) (N := some 66) (v := ?_) (a' := ?_) #[true, true, true, true, true, true, true, false] rfl rfl (any_of HT_.out (by kernel_rfl)) (fun _ _ _ h => h) (Or.inl ⟨by rfl, ?_⟩) ?_ ?_
        rotate_left
        · intro w'
          go_simp
          with_reducible rfl
        rotate_left
        · simp only [Act.put, List.setIfInBounds_toArray, List.set_cons_zero, List.set_cons_succ, i64_w, i32_w]
          rfl
        refine last_ (i := 7) (N := none) #[true, true, true, true, true, true, true, true] rfl rfl (one_of HT_.out (by kernel_rfl)) (by decide) (fun K hK => ?_)
        have hs34 : w33.cell? ⟨gb159, 1, none⟩ = some (.int .u64 (Go.bits .xor .u64 t161 (IntKind.u64.wrap (x160000_1 + x160001_1)))) := (blk_cell BK159.out 1).trans rfl
        have hfs34 := blk_frozen BK159.out 1
        have hns34_1 := NB160_159.out
        have hms34_1 := NB159_160.out
        refine skip_ (w1 := ?_) (by rfl) rfl ?_ ?_
        rotate_left
        · go_simp
          rfl
        refine hK.out _ _ ?_
        clear hK K
        refine done_ (done_of HT_.out (by kernel_rfl)) ?_
        have hcz35_0 : w33.cell? ⟨gb159, 0, none⟩ = some (.int .u64 (IntKind.u64.wrap (t162 + (Go.bits .xor .u64 t163 (IntKind.u64.wrap (x160002_1 + x160003_1)))))) := (blk_cell BK159.out 0).trans rfl
        have hcz35_1 : w33.cell? ⟨gb159, 1, none⟩ = some (.int .u64 (Go.bits .xor .u64 t161 (IntKind.u64.wrap (x160000_1 + x160001_1)))) := (blk_cell BK159.out 1).trans rfl
        have hcz35_2 : w33.cell? ⟨gb159, 2, none⟩ = some (.int .u64 (IntKind.u64.wrap ((IntKind.u64.wrap (x160002_1 + x160003_1)) + (Go.bits .xor .u64 t161 (IntKind.u64.wrap (x160000_1 + x160001_1)))))) := (blk_cell BK159.out 2).trans rfl
        have hcz35_3 : w33.cell? ⟨gb159, 3, none⟩ = some (.int .u64 (Go.bits .xor .u64 t164 (IntKind.u64.wrap (t162 + (Go.bits .xor .u64 t163 (IntKind.u64.wrap (x160002_1 + x160003_1))))))) := (blk_cell BK159.out 3).trans rfl
        have hfz35_0 := blk_frozen BK159.out 0
        have hfz35_1 := blk_frozen BK159.out 1
        have hfz35_2 := blk_frozen BK159.out 2
        have hfz35_3 := blk_frozen BK159.out 3
        try go_wp2_with (first | ((with_reducible refine gate_callee (f := 20) rfl ?_); refine goesL_ (some 69) rfl rfl Try.func20 (by kernel_rfl) rfl #[.int .u64 (IntKind.u64.wrap ((IntKind.u64.wrap (x160002_1 + x160003_1)) + (Go.bits .xor .u64 t161 (IntKind.u64.wrap (x160000_1 + x160001_1))))), .int .u64 32] rfl (by (try simp only [List.map_toArray, List.map_cons, List.map_nil]); first | done | rfl | (simp only [List.length_drop, List.length_take]; rfl)) ?_; (with_reducible refine (samphireref05_left.calls (IntKind.u64.wrap ((IntKind.u64.wrap (x160002_1 + x160003_1)) + (Go.bits .xor .u64 t161 (IntKind.u64.wrap (x160000_1 + x160001_1))))) 32 t166 _ A11.out).mono ?_); rintro e w36 ⟨rfl, hb⟩; refine ⟨_, rfl, ?_⟩; have n0_ := Aside0.mk (blk_below (g := gb159) (o := .cells #[.int .u64 (IntKind.u64.wrap (t162 + (Go.bits .xor .u64 t163 (IntKind.u64.wrap (x160002_1 + x160003_1))))), .int .u64 (Go.bits .xor .u64 t165 (IntKind.u64.wrap ((IntKind.u64.wrap (x160002_1 + x160003_1)) + (Go.bits .xor .u64 t161 (IntKind.u64.wrap (x160000_1 + x160001_1)))))), .int .u64 (IntKind.u64.wrap ((IntKind.u64.wrap (x160002_1 + x160003_1)) + (Go.bits .xor .u64 t161 (IntKind.u64.wrap (x160000_1 + x160001_1))))), .int .u64 (Go.bits .xor .u64 t164 (IntKind.u64.wrap (t162 + (Go.bits .xor .u64 t163 (IntKind.u64.wrap (x160002_1 + x160003_1))))))] 29 (0, 0)) (by (with_reducible repeat (first | refine blk_drewN ?_ _ | refine blk_drew ?_ | refine blk_alloc ?_ _)); refine blk_put (cs := #[.int .u64 (IntKind.u64.wrap (t162 + (Go.bits .xor .u64 t163 (IntKind.u64.wrap (x160002_1 + x160003_1))))), .int .u64 (Go.bits .xor .u64 t161 (IntKind.u64.wrap (x160000_1 + x160001_1))), .int .u64 (IntKind.u64.wrap ((IntKind.u64.wrap (x160002_1 + x160003_1)) + (Go.bits .xor .u64 t161 (IntKind.u64.wrap (x160000_1 + x160001_1))))), .int .u64 (Go.bits .xor .u64 t164 (IntKind.u64.wrap (t162 + (Go.bits .xor .u64 t163 (IntKind.u64.wrap (x160002_1 + x160003_1))))))]) ?_ 1 _ rfl; (with_reducible repeat (first | refine blk_drewN ?_ _ | refine blk_drew ?_ | refine blk_alloc ?_ _)); exact BK159.out) hb); have n1_ := Aside0.mk (blk_below (g := gb160) (o := .cells #[.int .u64 0, .int .u64 0, .int .u64 0, .int .u64 0] 29 (0, 0)) (by (with_reducible repeat (first | refine blk_drewN ?_ _ | refine blk_drew ?_ | refine blk_alloc ?_ _)); refine blk_far ?_ NB160_159.out _; (with_reducible repeat (first | refine blk_drewN ?_ _ | refine blk_drew ?_ | refine blk_alloc ?_ _)); exact BK160.out) hb); have n2_ := Aside0.mk (below_step (by repeat (first | (with_reducible first | exact HB.out | apply below_alloc | apply pw_below_drewN | apply below_drew1 | refine below_set ?_ GE159.out | refine below_set ?_ GE160.out) | exact HB.out)) hb); clear BK159; clear BK160; clear HB; have BK159 := n0_; have BK160 := n1_; have HB := n2_; clear n0_ n1_ n2_; (try clear hb); (try clear hb2); (try clear hk); (try clear hi); have hcz37_0 : w36.cell? ⟨gb159, 0, none⟩ = some (.int .u64 (IntKind.u64.wrap (t162 + (Go.bits .xor .u64 t163 (IntKind.u64.wrap (x160002_1 + x160003_1)))))) := (blk_cell BK159.out 0).trans rfl; have hcz37_1 : w36.cell? ⟨gb159, 1, none⟩ = some (.int .u64 (Go.bits .xor .u64 t165 (IntKind.u64.wrap ((IntKind.u64.wrap (x160002_1 + x160003_1)) + (Go.bits .xor .u64 t161 (IntKind.u64.wrap (x160000_1 + x160001_1))))))) := (blk_cell BK159.out 1).trans rfl; have hcz37_2 : w36.cell? ⟨gb159, 2, none⟩ = some (.int .u64 (IntKind.u64.wrap ((IntKind.u64.wrap (x160002_1 + x160003_1)) + (Go.bits .xor .u64 t161 (IntKind.u64.wrap (x160000_1 + x160001_1)))))) := (blk_cell BK159.out 2).trans rfl; have hcz37_3 : w36.cell? ⟨gb159, 3, none⟩ = some (.int .u64 (Go.bits .xor .u64 t164 (IntKind.u64.wrap (t162 + (Go.bits .xor .u64 t163 (IntKind.u64.wrap (x160002_1 + x160003_1))))))) := (blk_cell BK159.out 3).trans rfl; have hfz37_0 := blk_frozen BK159.out 0; have hfz37_1 := blk_frozen BK159.out 1; have hfz37_2 := blk_frozen BK159.out 2; have hfz37_3 := blk_frozen BK159.out 3))
        go_roundg k1
        case measure => have := HK1.out; omega
        case rel => exact ⟨(wrap64 (x5_1 + 1)), (IntKind.u64.wrap (t162 + (Go.bits .xor .u64 t163 (IntKind.u64.wrap (x160002_1 + x160003_1))))), (Go.bits .xor .u64 t165 (IntKind.u64.wrap ((IntKind.u64.wrap (x160002_1 + x160003_1)) + (Go.bits .xor .u64 t161 (IntKind.u64.wrap (x160000_1 + x160001_1)))))), (t166), (Go.bits .xor .u64 t164 (IntKind.u64.wrap (t162 + (Go.bits .xor .u64 t163 (IntKind.u64.wrap (x160002_1 + x160003_1)))))), (by first | rfl | (simp; done) | (simp [*]; done)), H', ⟨by have := HK1.out; omega⟩, ⟨by (with_reducible repeat (first | refine blk_drewN ?_ _ | refine blk_drew ?_ | refine blk_alloc ?_ _)); refine blk_put (cs := #[.int .u64 (IntKind.u64.wrap (t162 + (Go.bits .xor .u64 t163 (IntKind.u64.wrap (x160002_1 + x160003_1))))), .int .u64 (Go.bits .xor .u64 t165 (IntKind.u64.wrap ((IntKind.u64.wrap (x160002_1 + x160003_1)) + (Go.bits .xor .u64 t161 (IntKind.u64.wrap (x160000_1 + x160001_1)))))), .int .u64 (IntKind.u64.wrap ((IntKind.u64.wrap (x160002_1 + x160003_1)) + (Go.bits .xor .u64 t161 (IntKind.u64.wrap (x160000_1 + x160001_1))))), .int .u64 (Go.bits .xor .u64 t164 (IntKind.u64.wrap (t162 + (Go.bits .xor .u64 t163 (IntKind.u64.wrap (x160002_1 + x160003_1))))))]) ?_ 2 _ rfl; (with_reducible repeat (first | refine blk_drewN ?_ _ | refine blk_drew ?_ | refine blk_alloc ?_ _)); exact BK159.out⟩, ⟨by (with_reducible repeat (first | refine blk_drewN ?_ _ | refine blk_drew ?_ | refine blk_alloc ?_ _)); refine blk_far ?_ NB160_159.out _; (with_reducible repeat (first | refine blk_drewN ?_ _ | refine blk_drew ?_ | refine blk_alloc ?_ _)); exact BK160.out⟩, ⟨by repeat (first | (with_reducible first | exact HB.out | apply below_alloc | apply pw_below_drewN | apply below_drew1 | refine below_set ?_ GE159.out | refine below_set ?_ GE160.out) | exact HB.out)⟩⟩
      · rw [if_neg c5] at H
        have c5b0 : decide (x5_1 < a1) = false := decide_eq_false c5
        clear c5
        simp only [Option.some.injEq, Prod.mk.injEq] at H
        obtain ⟨rfl, rfl, rfl, rfl⟩ := H
        have hnb38 := NB159_160.out
        have hnc38 := NB160_159.out
        have hcz39_0 : wr.cell? ⟨gb159, 0, none⟩ = some (.int .u64 x160000_1) := (blk_cell BK159.out 0).trans rfl
        have hcz39_1 : wr.cell? ⟨gb159, 1, none⟩ = some (.int .u64 x160001_1) := (blk_cell BK159.out 1).trans rfl
        have hcz39_2 : wr.cell? ⟨gb159, 2, none⟩ = some (.int .u64 x160002_1) := (blk_cell BK159.out 2).trans rfl
        have hcz39_3 : wr.cell? ⟨gb159, 3, none⟩ = some (.int .u64 x160003_1) := (blk_cell BK159.out 3).trans rfl
        have hfz39_0 := blk_frozen BK159.out 0
        have hfz39_1 := blk_frozen BK159.out 1
        have hfz39_2 := blk_frozen BK159.out 2
        have hfz39_3 := blk_frozen BK159.out 3
        have hcz40_0 : wr.cell? ⟨gb160, 0, none⟩ = some (.int .u64 0) := (blk_cell BK160.out 0).trans rfl
        have hcz40_1 : wr.cell? ⟨gb160, 1, none⟩ = some (.int .u64 0) := (blk_cell BK160.out 1).trans rfl
        have hcz40_2 : wr.cell? ⟨gb160, 2, none⟩ = some (.int .u64 0) := (blk_cell BK160.out 2).trans rfl
        have hcz40_3 : wr.cell? ⟨gb160, 3, none⟩ = some (.int .u64 0) := (blk_cell BK160.out 3).trans rfl
        have hfz40_0 := blk_frozen BK160.out 0
        have hfz40_1 := blk_frozen BK160.out 1
        have hfz40_2 := blk_frozen BK160.out 2
        have hfz40_3 := blk_frozen BK160.out 3
        go_wp2
        refine bodyPost_ret (results_cell_row rfl _ _ gb160 29 #[.int .u64 x160000_1, .int .u64 x160001_1, .int .u64 x160002_1, .int .u64 x160003_1] (0, 0) _ rfl (by (with_reducible repeat (first | refine blk_drewN ?_ _ | refine blk_drew ?_ | refine blk_alloc ?_ _)); refine blk_put (cs := #[.int .u64 x160000_1, .int .u64 x160001_1, .int .u64 x160002_1, .int .u64 0]) ?_ 3 _ rfl; (with_reducible repeat (first | refine blk_drewN ?_ _ | refine blk_drew ?_ | refine blk_alloc ?_ _)); refine blk_put (cs := #[.int .u64 x160000_1, .int .u64 x160001_1, .int .u64 0, .int .u64 0]) ?_ 2 _ rfl; (with_reducible repeat (first | refine blk_drewN ?_ _ | refine blk_drew ?_ | refine blk_alloc ?_ _)); refine blk_put (cs := #[.int .u64 x160000_1, .int .u64 0, .int .u64 0, .int .u64 0]) ?_ 1 _ rfl; (with_reducible repeat (first | refine blk_drewN ?_ _ | refine blk_drew ?_ | refine blk_alloc ?_ _)); refine blk_put (cs := #[.int .u64 0, .int .u64 0, .int .u64 0, .int .u64 0]) ?_ 0 _ rfl; (with_reducible repeat (first | refine blk_drewN ?_ _ | refine blk_drew ?_ | refine blk_alloc ?_ _)); exact BK160.out) Try.underlying29 rfl (by kernel_rfl)) rfl ?_
        exact ⟨by first | rfl | (simp [errW_none, errW_some] <;> rfl) | (simp [*, errW_none, errW_some] <;> rfl), by repeat (first | (with_reducible first | exact HB.out | apply below_alloc | apply pw_below_drewN | apply below_drew1 | refine below_set ?_ GE159.out | refine below_set ?_ GE160.out) | exact HB.out)⟩

end Go.Proofs.Ytibdfimhhagjdaa.H
