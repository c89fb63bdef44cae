import Derived.Test.YtmfffbafldbihaaHx0
import Derived.Test.YtmfffbafldbihaaHx15
namespace Go.Proofs.Ytmfffbafldbihaa.H
open Go.RowKit Go.Proofs.YtmfffbafldbihaaW.PrintWords Go.Proofs.YtmfffbafldbihaaW.PrintLast Go.Proofs.YtmfffbafldbihaaW.PrintMore Go.Proofs.YtmfffbafldbihaaW.Sq
attribute [local go_sem] max2_int min2_int max_two min_two max_three min_three max_four min_four
set_option linter.unusedVariables false
set_option linter.unusedSimpArgs false

def r05_turns.l0 : Nat → Int → Int → Int → Int → Int → Int → Option (Int × Int × Int × Int)
 | 0, _, _, _, _, _, _ => none
 | k + 1, x1, x5, x293000, x293001, x293002, x293003 => if x5 < x1 then ((r05_left.f x293001 13).bind fun t294 => ((r05_left.f (IntKind.u64.wrap (x293000 + x293001)) 32).bind fun t295 => ((r05_left.f x293003 16).bind fun t296 => ((r05_left.f (Go.bits .xor .u64 t296 (IntKind.u64.wrap (x293002 + x293003))) 21).bind fun t297 => ((r05_left.f (Go.bits .xor .u64 t294 (IntKind.u64.wrap (x293000 + x293001))) 17).bind fun t298 => ((r05_left.f (IntKind.u64.wrap ((IntKind.u64.wrap (x293002 + x293003)) + (Go.bits .xor .u64 t294 (IntKind.u64.wrap (x293000 + x293001))))) 32).bind fun t299 => (r05_turns.l0 k x1 (wrap64 (x5 + 1)) (IntKind.u64.wrap (t295 + (Go.bits .xor .u64 t296 (IntKind.u64.wrap (x293002 + x293003))))) (Go.bits .xor .u64 t298 (IntKind.u64.wrap ((IntKind.u64.wrap (x293002 + x293003)) + (Go.bits .xor .u64 t294 (IntKind.u64.wrap (x293000 + x293001)))))) t299 (Go.bits .xor .u64 t297 (IntKind.u64.wrap (t295 + (Go.bits .xor .u64 t296 (IntKind.u64.wrap (x293002 + x293003))))))))))))) else (some (x293000, x293001, x293002, x293003))
def r05_turns.f (k : Nat) (a0_0 : Int) (a0_1 : Int) (a0_2 : Int) (a0_3 : Int) (a1 : Int) : Option (Int × Int × Int × Int) := r05_turns.l0 k a1 0 a0_0 a0_1 a0_2 a0_3
theorem r05_turns.mono_l : ∀ k, (∀ y0 y1 y2 y3 y4 y5, LeO (r05_turns.l0 k y0 y1 y2 y3 y4 y5) (r05_turns.l0 (k + 1) y0 y1 y2 y3 y4 y5))
 | 0 => fun _ _ _ _ _ _ r h => by simp [r05_turns.l0] at h
 | k + 1 => by
  have ih0 := r05_turns.mono_l k
  ·intro y0 y1 y2 y3 y4 y5
   unfold r05_turns.l0
   repeat' first
   | (with_reducible exact ih0 _ _ _ _ _ _)
   | (with_reducible exact LeO.refl _)
   | (with_reducible exact LeO.none _)
   | (with_reducible refine LeO.ite ?_ ?_)
   | (with_reducible refine LeO.bind ?_ (fun _ => ?_))
theorem r05_turns.mono : ∀ a0 a1 a2 a3 a4 k, LeO (r05_turns.f k a0 a1 a2 a3 a4) (r05_turns.f (k + 1) a0 a1 a2 a3 a4) := by
 intro a0 a1 a2 a3 a4 k
 have ih0 := r05_turns.mono_l k
 unfold r05_turns.f
 repeat' first
   | (with_reducible exact ih0 _ _ _ _ _ _)
   | (with_reducible exact LeO.refl _)
   | (with_reducible exact LeO.none _)
   | (with_reducible refine LeO.ite ?_ ?_)
   | (with_reducible refine LeO.bind ?_ (fun _ => ?_))
def r05_turns.T5 : Bool × List (List Nat × List Nat) := (true, [([], []), ([0], [0]), ([1], [1]), ([], []), ([3], [3]), ([2, 4], [2, 4]), ([0, 1, 2, 3, 4, 5], []), ([6, 5, 2, 0, 1, 2, 3, 4, 5], [5, 6])])
def r05_turns.B5 : List Nat := [0, 1, 3, 0, 8, 31, 63, 127]
theorem r05_turns.tab5 : rtab .any (opsOf Try.f34 5) = r05_turns.T5 := by kernel_rfl
theorem r05_turns.bits5 : waitsOk r05_turns.T5.2 r05_turns.B5 = true := by kernel_rfl
def r05_turns.T8 : Bool × List (List Nat × List Nat) := (true, [([], []), ([0], [0]), ([1], [1]), ([], []), ([3], [3]), ([2, 4], [2, 4]), ([0, 1, 2, 3, 4, 5], []), ([6, 5, 2, 0, 1, 2, 3, 4, 5], [5, 6])])
def r05_turns.B8 : List Nat := [0, 1, 3, 0, 8, 31, 63, 127]
theorem r05_turns.tab8 : rtab .any (opsOf Try.f34 8) = r05_turns.T8 := by kernel_rfl
theorem r05_turns.bits8 : waitsOk r05_turns.T8.2 r05_turns.B8 = true := by kernel_rfl
def r05_turns.T10 : Bool × List (List Nat × List Nat) := (true, [([], []), ([0], [0]), ([1], [1]), ([], []), ([3], [3]), ([2, 4], [2, 4]), ([0, 1, 2, 3, 4, 5], []), ([6, 5, 2, 0, 1, 2, 3, 4, 5], [5, 6])])
def r05_turns.B10 : List Nat := [0, 1, 3, 0, 8, 31, 63, 127]
theorem r05_turns.tab10 : rtab .any (opsOf Try.f34 10) = r05_turns.T10 := by kernel_rfl
theorem r05_turns.bits10 : waitsOk r05_turns.T10.2 r05_turns.B10 = true := by kernel_rfl
def r05_turns.T12 : Bool × List (List Nat × List Nat) := (true, [([], []), ([0], [0]), ([1], [1]), ([], []), ([3], [3]), ([2, 4], [2, 4]), ([0, 1, 2, 3, 4, 5], []), ([6, 5, 2, 0, 1, 2, 3, 4, 5], [5, 6])])
def r05_turns.B12 : List Nat := [0, 1, 3, 0, 8, 31, 63, 127]
theorem r05_turns.tab12 : rtab .any (opsOf Try.f34 12) = r05_turns.T12 := by kernel_rfl
theorem r05_turns.bits12 : waitsOk r05_turns.T12.2 r05_turns.B12 = true := by kernel_rfl
set_option maxHeartbeats 8000000 in
set_option maxRecDepth 100000 in
theorem r05_turns.calls (k : Nat) (a0_0 : Int) (a0_1 : Int) (a0_2 : Int) (a0_3 : Int) (a1 : Int) (r1 : Int) (r2 : Int) (r3 : Int) (r4 : Int) (w : World) (h : r05_turns.f k a0_0 a0_1 a0_2 a0_3 a1 = some (r1, r2, r3, r4)) :
  Calls Try.prog 34 #[.agg #[.int .u64 a0_0, .int .u64 a0_1, .int .u64 a0_2, .int .u64 a0_3], .int .i64 a1] w fun e w' => e = .returned (.agg #[.int .u64 r1, .int .u64 r2, .int .u64 r3, .int .u64 r4]) ∧ Below w.heap.size w w' := by
 have hu75 := Try.underlying75;have HB := am (Below.refl w.heap.size w);have H : (r05_turns.l0 k a1 0 a0_0 a0_1 a0_2 a0_3) = some (r1, r2, r3, r4) := h;clear h;have H' := am H;clear H
 go_enter Try.func34, Try.ntmps34
 go_wp2_with (first | ((with_reducible refine gate_dst (N := 2) rfl ?_); refine be 2 #[.int .u64 a0_0, .int .u64 a0_1, .int .u64 a0_2, .int .u64 a0_3] 75 ?_; intro gb292 hg w3 hbox hb; have BK292 := am (hbox); have GW292 := am ((pg hg HB : w.heap.size ≤ gb292)); have GE292 := am ((pg hg HB : w.heap.size ≤ gb292)); replace HB := am (below_step (pb HB) hb); clear hb hbox hg) | ((with_reducible refine gate_dst (N := 4) rfl ?_); refine be 4 #[.int .u64 0, .int .u64 0, .int .u64 0, .int .u64 0] 75 ?_; intro gb293 hg w4 hbox hb; have BK293 := am (hbox); have GW293 := am ((pg hg HB : w.heap.size ≤ gb293)); have GE293 := am ((pg hg HB : w.heap.size ≤ gb293)); replace HB := am (below_step (pb HB) hb); obtain ⟨NB292_293, NB293_292, -, -⟩ := pm hg BK292; replace BK292 := am (blk_below (pk BK292.out) hb); clear hb hbox hg))
 go_loopg [5] k (fun kq v5 w' => ∃ (x5_1 : Int) (x293000_1 : Int) (x293001_1 : Int) (x293002_1 : Int) (x293003_1 : Int), v5 = .int .i64 x5_1 ∧ Aside0 (r05_turns.l0 kq a1 x5_1 x293000_1 x293001_1 x293002_1 x293003_1 = some (r1, r2, r3, r4)) ∧ Aside0 (kq ≤ k) ∧ Aside0 (w'.heap[gb292]? = some (.cells #[.int .u64 x293000_1, .int .u64 x293001_1, .int .u64 x293002_1, .int .u64 x293003_1] 75 (0, 0))) ∧ Aside0 (w'.heap[gb293]? = some (.cells #[.int .u64 0, .int .u64 0, .int .u64 0, .int .u64 0] 75 (0, 0))) ∧ Aside0 (Below w.heap.size w w'))
 case atStart => exact ⟨(0), (a0_0), (a0_1), (a0_2), (a0_3), (by first | rfl | (simp; done) | (simp [*]; done)), H', ⟨Nat.le_refl _⟩, ⟨pk BK292.out⟩, ⟨pk BK293.out⟩, ⟨pb HB⟩⟩
 case round =>
  clear H';(try clear p2);(try clear c3);obtain ⟨x5_1, x293000_1, x293001_1, x293002_1, x293003_1, rfl, HA, HK1, BK292, BK293, HB⟩ := hrel
  cases gk with
  | zero => exact absurd HA.out (by simp [r05_turns.l0])
  | succ k1 =>
   have H := HA.out;clear HA
   simp only [r05_turns.l0] at H
   by_cases c5 : x5_1 < a1
   ·rw [if_pos c5] at H;have c5b0 : decide (x5_1 < a1) = true := decide_eq_true c5;clear c5;replace H := Option.bind_eq_some_iff.mp H;obtain ⟨t294, A60, H⟩ := H
    try dsimp only at H
    have A6 := am A60;clear A60;replace H := Option.bind_eq_some_iff.mp H;obtain ⟨t295, A70, H⟩ := H
    try dsimp only at H
    have A7 := am A70;clear A70;replace H := Option.bind_eq_some_iff.mp H;obtain ⟨t296, A80, H⟩ := H
    try dsimp only at H
    have A8 := am A80;clear A80;replace H := Option.bind_eq_some_iff.mp H;obtain ⟨t297, A90, H⟩ := H
    try dsimp only at H
    have A9 := am A90;clear A90;replace H := Option.bind_eq_some_iff.mp H;obtain ⟨t298, A100, H⟩ := H
    try dsimp only at H
    have A10 := am A100;clear A100;replace H := Option.bind_eq_some_iff.mp H;obtain ⟨t299, A110, H⟩ := H
    try dsimp only at H
    have A11 := am A110;clear A110;have H' := am H;clear H;have hnb12 := NB292_293.out;have hnc12 := NB293_292.out;obtain ⟨hcz13_0, hcz13_1, hcz13_2, hcz13_3, hfz13_0, hfz13_1, hfz13_2, hfz13_3⟩ := g4 BK292
    try go_wp2
    have n0_ : Aside0 ((wr.setCell ⟨gb292, 0, none⟩ (.int .u64 (IntKind.u64.wrap (x293000_1 + x293001_1)))).heap[gb292]? = some (.cells #[.int .u64 (IntKind.u64.wrap (x293000_1 + x293001_1)), .int .u64 x293001_1, .int .u64 x293002_1, .int .u64 x293003_1] 75 (0, 0))) := ⟨by refine pk ?_; refine blk_put (cs := #[.int .u64 x293000_1, .int .u64 x293001_1, .int .u64 x293002_1, .int .u64 x293003_1]) ?_ 0 _ rfl; refine pk ?_; exact BK292.out⟩;have n1_ : Aside0 ((wr.setCell ⟨gb292, 0, none⟩ (.int .u64 (IntKind.u64.wrap (x293000_1 + x293001_1)))).heap[gb293]? = some (.cells #[.int .u64 0, .int .u64 0, .int .u64 0, .int .u64 0] 75 (0, 0))) := ⟨by refine pk ?_; refine blk_far ?_ NB293_292.out _; refine pk ?_; exact BK293.out⟩;have n2_ : Aside0 (Below w.heap.size w (wr.setCell ⟨gb292, 0, none⟩ (.int .u64 (IntKind.u64.wrap (x293000_1 + x293001_1))))) := ⟨pb HB⟩
    (try clear BK292)
    (try clear BK293)
    (try clear HB)
    generalize (wr.setCell ⟨gb292, 0, none⟩ (.int .u64 (IntKind.u64.wrap (x293000_1 + x293001_1)))) = w14 at n0_ n1_ n2_ ⊢
    have BK292 := n0_;have BK293 := n1_;have HB := n2_;clear n0_ n1_ n2_;replace BK292 := am (blk_drew BK292.out);replace BK293 := am (blk_drew BK293.out);replace HB := am (below_drew1 HB.out)
    refine start_ (n := 8) (S := fun w' => w'.cell? ⟨gb292, 0, none⟩ = some (.int .u64 (IntKind.u64.wrap (x293000_1 + x293001_1))) ∧ w'.cell? ⟨gb292, 1, none⟩ = some (.int .u64 x293001_1) ∧ w'.cell? ⟨gb292, 2, none⟩ = some (.int .u64 x293002_1) ∧ w'.cell? ⟨gb292, 3, none⟩ = some (.int .u64 x293003_1)) (ds := [7]) #[false, false, false, false, false, false, false, false] (by kernel_rfl) rfl rfl ⟨ce BK292 0, ce BK292 1, ce BK292 2, ce BK292 3⟩ (fun hHeld => ?_); refine with_tabW r05_turns.tab5 r05_turns.bits5 (fun HT_ HW_ => ?_)
    generalize w14.drew = w15 at BK292 BK293 HB hHeld ⊢
    refine pu 0 ?_
    refine pu 3 ?_
    refine ta 1 hHeld ?_
    refine ta 4 hHeld ?_
    refine on1 2 (fun K hK => ?_)
    refine gs Try.func48 #[.int .u64 x293001_1, .int .u64 13] ?_
    with_reducible refine (r05_left.calls x293001_1 13 t294 _ A6.out).mono ?_
    rintro e w16 ⟨rfl, hb⟩
    refine ⟨_, rfl, ?_⟩
    replace BK292 := am (blk_below (pk BK292.out) hb);replace BK293 := am (blk_below (pk BK293.out) hb);replace HB := am (below_step (pb HB) hb)
    (try clear hb)
    (try clear hb2)
    (try clear hk)
    (try clear hi)
    refine hK.out _ _ ⟨ce BK292 0, ce BK292 1, ce BK292 2, ce BK292 3⟩ (fun hHeld => ?_)
    clear hK K
    refine nm ?_
    refine pu 5 ?_
    refine pu 6 ?_
    refine last_ (i := 7) (N := none) #[true, true, true, true, true, true, true, true] rfl rfl (one_of HT_.out (by kernel_rfl)) (by decide) (fun K hK => ?_)
    have hs17 : w16.cell? ⟨gb292, 1, none⟩ = some (.int .u64 x293001_1) := ce BK292 1;have hfs17 := blk_frozen BK292.out 1;have hns17_1 := NB293_292.out;have hms17_1 := NB292_293.out
    refine skip_ (w1 := ?_) (by rfl) rfl ?_ ?_
    rotate_left
    ·go_simp
     rfl
    refine hK.out _ _ ?_
    clear hK K
    refine done_ (done_of HT_.out (by kernel_rfl)) ?_
    obtain ⟨hcz18_0, hcz18_1, hcz18_2, hcz18_3, hfz18_0, hfz18_1, hfz18_2, hfz18_3⟩ := g4 BK292
    try go_wp2_with (first | ((with_reducible refine gate_callee (f := 48) rfl ?_); refine gl (some 26) Try.func48 #[.int .u64 (IntKind.u64.wrap (x293000_1 + x293001_1)), .int .u64 32] ?_; (with_reducible refine (r05_left.calls (IntKind.u64.wrap (x293000_1 + x293001_1)) 32 t295 _ A7.out).mono ?_); rintro e w19 ⟨rfl, hb⟩; refine ⟨_, rfl, ?_⟩; replace BK292 := am (blk_below (g := gb292) (o := .cells #[.int .u64 (IntKind.u64.wrap (x293000_1 + x293001_1)), .int .u64 (Go.bits .xor .u64 t294 (IntKind.u64.wrap (x293000_1 + x293001_1))), .int .u64 x293002_1, .int .u64 x293003_1] 75 (0, 0)) (by refine pk ?_; refine blk_put (cs := #[.int .u64 (IntKind.u64.wrap (x293000_1 + x293001_1)), .int .u64 x293001_1, .int .u64 x293002_1, .int .u64 x293003_1]) ?_ 1 _ rfl; refine pk ?_; exact BK292.out) hb); replace BK293 := am (blk_below (g := gb293) (o := .cells #[.int .u64 0, .int .u64 0, .int .u64 0, .int .u64 0] 75 (0, 0)) (by refine pk ?_; refine blk_far ?_ NB293_292.out _; refine pk ?_; exact BK293.out) hb); replace HB := am (below_step (pb HB) hb); (try clear hb); (try clear hb2); (try clear hk); (try clear hi); obtain ⟨hcz20_0, hcz20_1, hcz20_2, hcz20_3, hfz20_0, hfz20_1, hfz20_2, hfz20_3⟩ := g4 BK292))
    have n0_ : Aside0 (((w19.setCell ⟨gb292, 0, none⟩ (.int .u64 t295)).setCell ⟨gb292, 2, none⟩ (.int .u64 (IntKind.u64.wrap (x293002_1 + x293003_1)))).heap[gb292]? = some (.cells #[.int .u64 t295, .int .u64 (Go.bits .xor .u64 t294 (IntKind.u64.wrap (x293000_1 + x293001_1))), .int .u64 (IntKind.u64.wrap (x293002_1 + x293003_1)), .int .u64 x293003_1] 75 (0, 0))) := ⟨by refine pk ?_; refine blk_put (cs := #[.int .u64 t295, .int .u64 (Go.bits .xor .u64 t294 (IntKind.u64.wrap (x293000_1 + x293001_1))), .int .u64 x293002_1, .int .u64 x293003_1]) ?_ 2 _ rfl; refine pk ?_; refine blk_put (cs := #[.int .u64 (IntKind.u64.wrap (x293000_1 + x293001_1)), .int .u64 (Go.bits .xor .u64 t294 (IntKind.u64.wrap (x293000_1 + x293001_1))), .int .u64 x293002_1, .int .u64 x293003_1]) ?_ 0 _ rfl; refine pk ?_; exact BK292.out⟩;have n1_ : Aside0 (((w19.setCell ⟨gb292, 0, none⟩ (.int .u64 t295)).setCell ⟨gb292, 2, none⟩ (.int .u64 (IntKind.u64.wrap (x293002_1 + x293003_1)))).heap[gb293]? = some (.cells #[.int .u64 0, .int .u64 0, .int .u64 0, .int .u64 0] 75 (0, 0))) := ⟨by refine pk ?_; refine blk_far ?_ NB293_292.out _; refine pk ?_; refine blk_far ?_ NB293_292.out _; refine pk ?_; exact BK293.out⟩;have n2_ : Aside0 (Below w.heap.size w ((w19.setCell ⟨gb292, 0, none⟩ (.int .u64 t295)).setCell ⟨gb292, 2, none⟩ (.int .u64 (IntKind.u64.wrap (x293002_1 + x293003_1))))) := ⟨pb HB⟩
    (try clear BK292)
    (try clear BK293)
    (try clear HB)
    generalize ((w19.setCell ⟨gb292, 0, none⟩ (.int .u64 t295)).setCell ⟨gb292, 2, none⟩ (.int .u64 (IntKind.u64.wrap (x293002_1 + x293003_1)))) = w21 at n0_ n1_ n2_ ⊢
    have BK292 := n0_;have BK293 := n1_;have HB := n2_;clear n0_ n1_ n2_;replace BK292 := am (blk_drew BK292.out);replace BK293 := am (blk_drew BK293.out);replace HB := am (below_drew1 HB.out)
    refine start_ (n := 8) (S := fun w' => w'.cell? ⟨gb292, 0, none⟩ = some (.int .u64 t295) ∧ w'.cell? ⟨gb292, 1, none⟩ = some (.int .u64 (Go.bits .xor .u64 t294 (IntKind.u64.wrap (x293000_1 + x293001_1)))) ∧ w'.cell? ⟨gb292, 2, none⟩ = some (.int .u64 (IntKind.u64.wrap (x293002_1 + x293003_1))) ∧ w'.cell? ⟨gb292, 3, none⟩ = some (.int .u64 x293003_1)) (ds := [7]) #[false, false, false, false, false, false, false, false] (by kernel_rfl) rfl rfl ⟨ce BK292 0, ce BK292 1, ce BK292 2, ce BK292 3⟩ (fun hHeld => ?_); refine with_tabW r05_turns.tab8 r05_turns.bits8 (fun HT_ HW_ => ?_)
    generalize w21.drew = w22 at BK292 BK293 HB hHeld ⊢
    refine pu 0 ?_
    refine pu 3 ?_
    refine ta 1 hHeld ?_
    refine ta 4 hHeld ?_
    refine on1 2 (fun K hK => ?_)
    refine gs Try.func48 #[.int .u64 x293003_1, .int .u64 16] ?_
    with_reducible refine (r05_left.calls x293003_1 16 t296 _ A8.out).mono ?_
    rintro e w23 ⟨rfl, hb⟩
    refine ⟨_, rfl, ?_⟩
    replace BK292 := am (blk_below (pk BK292.out) hb);replace BK293 := am (blk_below (pk BK293.out) hb);replace HB := am (below_step (pb HB) hb)
    (try clear hb)
    (try clear hb2)
    (try clear hk)
    (try clear hi)
    refine hK.out _ _ ⟨ce BK292 0, ce BK292 1, ce BK292 2, ce BK292 3⟩ (fun hHeld => ?_)
    clear hK K
    refine nm ?_
    refine pu 5 ?_
    refine pu 6 ?_
    refine last_ (i := 7) (N := none) #[true, true, true, true, true, true, true, true] rfl rfl (one_of HT_.out (by kernel_rfl)) (by decide) (fun K hK => ?_)
    have hs24 : w23.cell? ⟨gb292, 3, none⟩ = some (.int .u64 x293003_1) := ce BK292 3;have hfs24 := blk_frozen BK292.out 3;have hns24_1 := NB293_292.out;have hms24_1 := NB292_293.out
    refine skip_ (w1 := ?_) (by rfl) rfl ?_ ?_
    rotate_left
    ·go_simp
     rfl
    refine hK.out _ _ ?_
    clear hK K
    refine done_ (done_of HT_.out (by kernel_rfl)) ?_
    obtain ⟨hcz25_0, hcz25_1, hcz25_2, hcz25_3, hfz25_0, hfz25_1, hfz25_2, hfz25_3⟩ := g4 BK292
    try go_wp2
    have n0_ : Aside0 (((w23.setCell ⟨gb292, 3, none⟩ (.int .u64 (Go.bits .xor .u64 t296 (IntKind.u64.wrap (x293002_1 + x293003_1))))).setCell ⟨gb292, 0, none⟩ (.int .u64 (IntKind.u64.wrap (t295 + (Go.bits .xor .u64 t296 (IntKind.u64.wrap (x293002_1 + x293003_1))))))).heap[gb292]? = some (.cells #[.int .u64 (IntKind.u64.wrap (t295 + (Go.bits .xor .u64 t296 (IntKind.u64.wrap (x293002_1 + x293003_1))))), .int .u64 (Go.bits .xor .u64 t294 (IntKind.u64.wrap (x293000_1 + x293001_1))), .int .u64 (IntKind.u64.wrap (x293002_1 + x293003_1)), .int .u64 (Go.bits .xor .u64 t296 (IntKind.u64.wrap (x293002_1 + x293003_1)))] 75 (0, 0))) := ⟨by refine pk ?_; refine blk_put (cs := #[.int .u64 t295, .int .u64 (Go.bits .xor .u64 t294 (IntKind.u64.wrap (x293000_1 + x293001_1))), .int .u64 (IntKind.u64.wrap (x293002_1 + x293003_1)), .int .u64 (Go.bits .xor .u64 t296 (IntKind.u64.wrap (x293002_1 + x293003_1)))]) ?_ 0 _ rfl; refine pk ?_; refine blk_put (cs := #[.int .u64 t295, .int .u64 (Go.bits .xor .u64 t294 (IntKind.u64.wrap (x293000_1 + x293001_1))), .int .u64 (IntKind.u64.wrap (x293002_1 + x293003_1)), .int .u64 x293003_1]) ?_ 3 _ rfl; refine pk ?_; exact BK292.out⟩;have n1_ : Aside0 (((w23.setCell ⟨gb292, 3, none⟩ (.int .u64 (Go.bits .xor .u64 t296 (IntKind.u64.wrap (x293002_1 + x293003_1))))).setCell ⟨gb292, 0, none⟩ (.int .u64 (IntKind.u64.wrap (t295 + (Go.bits .xor .u64 t296 (IntKind.u64.wrap (x293002_1 + x293003_1))))))).heap[gb293]? = some (.cells #[.int .u64 0, .int .u64 0, .int .u64 0, .int .u64 0] 75 (0, 0))) := ⟨by refine pk ?_; refine blk_far ?_ NB293_292.out _; refine pk ?_; refine blk_far ?_ NB293_292.out _; refine pk ?_; exact BK293.out⟩;have n2_ : Aside0 (Below w.heap.size w ((w23.setCell ⟨gb292, 3, none⟩ (.int .u64 (Go.bits .xor .u64 t296 (IntKind.u64.wrap (x293002_1 + x293003_1))))).setCell ⟨gb292, 0, none⟩ (.int .u64 (IntKind.u64.wrap (t295 + (Go.bits .xor .u64 t296 (IntKind.u64.wrap (x293002_1 + x293003_1)))))))) := ⟨pb HB⟩
    (try clear BK292)
    (try clear BK293)
    (try clear HB)
    generalize ((w23.setCell ⟨gb292, 3, none⟩ (.int .u64 (Go.bits .xor .u64 t296 (IntKind.u64.wrap (x293002_1 + x293003_1))))).setCell ⟨gb292, 0, none⟩ (.int .u64 (IntKind.u64.wrap (t295 + (Go.bits .xor .u64 t296 (IntKind.u64.wrap (x293002_1 + x293003_1))))))) = w26 at n0_ n1_ n2_ ⊢
    have BK292 := n0_;have BK293 := n1_;have HB := n2_;clear n0_ n1_ n2_;replace BK292 := am (blk_drew BK292.out);replace BK293 := am (blk_drew BK293.out);replace HB := am (below_drew1 HB.out)
    refine start_ (n := 8) (S := fun w' => w'.cell? ⟨gb292, 0, none⟩ = some (.int .u64 (IntKind.u64.wrap (t295 + (Go.bits .xor .u64 t296 (IntKind.u64.wrap (x293002_1 + x293003_1)))))) ∧ w'.cell? ⟨gb292, 1, none⟩ = some (.int .u64 (Go.bits .xor .u64 t294 (IntKind.u64.wrap (x293000_1 + x293001_1)))) ∧ w'.cell? ⟨gb292, 2, none⟩ = some (.int .u64 (IntKind.u64.wrap (x293002_1 + x293003_1))) ∧ w'.cell? ⟨gb292, 3, none⟩ = some (.int .u64 (Go.bits .xor .u64 t296 (IntKind.u64.wrap (x293002_1 + x293003_1))))) (ds := [7]) #[false, false, false, false, false, false, false, false] (by kernel_rfl) rfl rfl ⟨ce BK292 0, ce BK292 1, ce BK292 2, ce BK292 3⟩ (fun hHeld => ?_); refine with_tabW r05_turns.tab10 r05_turns.bits10 (fun HT_ HW_ => ?_)
    generalize w26.drew = w27 at BK292 BK293 HB hHeld ⊢
    refine pu 0 ?_
    refine pu 3 ?_
    refine ta 1 hHeld ?_
    refine ta 4 hHeld ?_
    refine on1 2 (fun K hK => ?_)
    refine gs Try.func48 #[.int .u64 (Go.bits .xor .u64 t296 (IntKind.u64.wrap (x293002_1 + x293003_1))), .int .u64 21] ?_
    with_reducible refine (r05_left.calls (Go.bits .xor .u64 t296 (IntKind.u64.wrap (x293002_1 + x293003_1))) 21 t297 _ A9.out).mono ?_
    rintro e w28 ⟨rfl, hb⟩
    refine ⟨_, rfl, ?_⟩
    replace BK292 := am (blk_below (pk BK292.out) hb);replace BK293 := am (blk_below (pk BK293.out) hb);replace HB := am (below_step (pb HB) hb)
    (try clear hb)
    (try clear hb2)
    (try clear hk)
    (try clear hi)
    refine hK.out _ _ ⟨ce BK292 0, ce BK292 1, ce BK292 2, ce BK292 3⟩ (fun hHeld => ?_)
    clear hK K
    refine nm ?_
    refine pu 5 ?_
    refine pu 6 ?_
    refine last_ (i := 7) (N := none) #[true, true, true, true, true, true, true, true] rfl rfl (one_of HT_.out (by kernel_rfl)) (by decide) (fun K hK => ?_)
    have hs29 : w28.cell? ⟨gb292, 3, none⟩ = some (.int .u64 (Go.bits .xor .u64 t296 (IntKind.u64.wrap (x293002_1 + x293003_1)))) := ce BK292 3;have hfs29 := blk_frozen BK292.out 3;have hns29_1 := NB293_292.out;have hms29_1 := NB292_293.out
    refine skip_ (w1 := ?_) (by rfl) rfl ?_ ?_
    rotate_left
    ·go_simp
     rfl
    refine hK.out _ _ ?_
    clear hK K
    refine done_ (done_of HT_.out (by kernel_rfl)) ?_
    obtain ⟨hcz30_0, hcz30_1, hcz30_2, hcz30_3, hfz30_0, hfz30_1, hfz30_2, hfz30_3⟩ := g4 BK292
    try go_wp2
    have n0_ : Aside0 (((w28.setCell ⟨gb292, 3, none⟩ (.int .u64 (Go.bits .xor .u64 t297 (IntKind.u64.wrap (t295 + (Go.bits .xor .u64 t296 (IntKind.u64.wrap (x293002_1 + x293003_1)))))))).setCell ⟨gb292, 2, none⟩ (.int .u64 (IntKind.u64.wrap ((IntKind.u64.wrap (x293002_1 + x293003_1)) + (Go.bits .xor .u64 t294 (IntKind.u64.wrap (x293000_1 + x293001_1))))))).heap[gb292]? = some (.cells #[.int .u64 (IntKind.u64.wrap (t295 + (Go.bits .xor .u64 t296 (IntKind.u64.wrap (x293002_1 + x293003_1))))), .int .u64 (Go.bits .xor .u64 t294 (IntKind.u64.wrap (x293000_1 + x293001_1))), .int .u64 (IntKind.u64.wrap ((IntKind.u64.wrap (x293002_1 + x293003_1)) + (Go.bits .xor .u64 t294 (IntKind.u64.wrap (x293000_1 + x293001_1))))), .int .u64 (Go.bits .xor .u64 t297 (IntKind.u64.wrap (t295 + (Go.bits .xor .u64 t296 (IntKind.u64.wrap (x293002_1 + x293003_1))))))] 75 (0, 0))) := ⟨by refine pk ?_; refine blk_put (cs := #[.int .u64 (IntKind.u64.wrap (t295 + (Go.bits .xor .u64 t296 (IntKind.u64.wrap (x293002_1 + x293003_1))))), .int .u64 (Go.bits .xor .u64 t294 (IntKind.u64.wrap (x293000_1 + x293001_1))), .int .u64 (IntKind.u64.wrap (x293002_1 + x293003_1)), .int .u64 (Go.bits .xor .u64 t297 (IntKind.u64.wrap (t295 + (Go.bits .xor .u64 t296 (IntKind.u64.wrap (x293002_1 + x293003_1))))))]) ?_ 2 _ rfl; refine pk ?_; refine blk_put (cs := #[.int .u64 (IntKind.u64.wrap (t295 + (Go.bits .xor .u64 t296 (IntKind.u64.wrap (x293002_1 + x293003_1))))), .int .u64 (Go.bits .xor .u64 t294 (IntKind.u64.wrap (x293000_1 + x293001_1))), .int .u64 (IntKind.u64.wrap (x293002_1 + x293003_1)), .int .u64 (Go.bits .xor .u64 t296 (IntKind.u64.wrap (x293002_1 + x293003_1)))]) ?_ 3 _ rfl; refine pk ?_; exact BK292.out⟩;have n1_ : Aside0 (((w28.setCell ⟨gb292, 3, none⟩ (.int .u64 (Go.bits .xor .u64 t297 (IntKind.u64.wrap (t295 + (Go.bits .xor .u64 t296 (IntKind.u64.wrap (x293002_1 + x293003_1)))))))).setCell ⟨gb292, 2, none⟩ (.int .u64 (IntKind.u64.wrap ((IntKind.u64.wrap (x293002_1 + x293003_1)) + (Go.bits .xor .u64 t294 (IntKind.u64.wrap (x293000_1 + x293001_1))))))).heap[gb293]? = some (.cells #[.int .u64 0, .int .u64 0, .int .u64 0, .int .u64 0] 75 (0, 0))) := ⟨by refine pk ?_; refine blk_far ?_ NB293_292.out _; refine pk ?_; refine blk_far ?_ NB293_292.out _; refine pk ?_; exact BK293.out⟩;have n2_ : Aside0 (Below w.heap.size w ((w28.setCell ⟨gb292, 3, none⟩ (.int .u64 (Go.bits .xor .u64 t297 (IntKind.u64.wrap (t295 + (Go.bits .xor .u64 t296 (IntKind.u64.wrap (x293002_1 + x293003_1)))))))).setCell ⟨gb292, 2, none⟩ (.int .u64 (IntKind.u64.wrap ((IntKind.u64.wrap (x293002_1 + x293003_1)) + (Go.bits .xor .u64 t294 (IntKind.u64.wrap (x293000_1 + x293001_1)))))))) := ⟨pb HB⟩
    (try clear BK292)
    (try clear BK293)
    (try clear HB)
    generalize ((w28.setCell ⟨gb292, 3, none⟩ (.int .u64 (Go.bits .xor .u64 t297 (IntKind.u64.wrap (t295 + (Go.bits .xor .u64 t296 (IntKind.u64.wrap (x293002_1 + x293003_1)))))))).setCell ⟨gb292, 2, none⟩ (.int .u64 (IntKind.u64.wrap ((IntKind.u64.wrap (x293002_1 + x293003_1)) + (Go.bits .xor .u64 t294 (IntKind.u64.wrap (x293000_1 + x293001_1))))))) = w31 at n0_ n1_ n2_ ⊢
    have BK292 := n0_;have BK293 := n1_;have HB := n2_;clear n0_ n1_ n2_;replace BK292 := am (blk_drew BK292.out);replace BK293 := am (blk_drew BK293.out);replace HB := am (below_drew1 HB.out)
    refine start_ (n := 8) (S := fun w' => w'.cell? ⟨gb292, 0, none⟩ = some (.int .u64 (IntKind.u64.wrap (t295 + (Go.bits .xor .u64 t296 (IntKind.u64.wrap (x293002_1 + x293003_1)))))) ∧ w'.cell? ⟨gb292, 1, none⟩ = some (.int .u64 (Go.bits .xor .u64 t294 (IntKind.u64.wrap (x293000_1 + x293001_1)))) ∧ w'.cell? ⟨gb292, 2, none⟩ = some (.int .u64 (IntKind.u64.wrap ((IntKind.u64.wrap (x293002_1 + x293003_1)) + (Go.bits .xor .u64 t294 (IntKind.u64.wrap (x293000_1 + x293001_1)))))) ∧ w'.cell? ⟨gb292, 3, none⟩ = some (.int .u64 (Go.bits .xor .u64 t297 (IntKind.u64.wrap (t295 + (Go.bits .xor .u64 t296 (IntKind.u64.wrap (x293002_1 + x293003_1)))))))) (ds := [7]) #[false, false, false, false, false, false, false, false] (by kernel_rfl) rfl rfl ⟨ce BK292 0, ce BK292 1, ce BK292 2, ce BK292 3⟩ (fun hHeld => ?_); refine with_tabW r05_turns.tab12 r05_turns.bits12 (fun HT_ HW_ => ?_)
    generalize w31.drew = w32 at BK292 BK293 HB hHeld ⊢
    refine pu 0 ?_
    refine pu 3 ?_
    refine ta 1 hHeld ?_
    refine ta 4 hHeld ?_
    refine on1 2 (fun K hK => ?_)
    refine gs Try.func48 #[.int .u64 (Go.bits .xor .u64 t294 (IntKind.u64.wrap (x293000_1 + x293001_1))), .int .u64 17] ?_
    with_reducible refine (r05_left.calls (Go.bits .xor .u64 t294 (IntKind.u64.wrap (x293000_1 + x293001_1))) 17 t298 _ A10.out).mono ?_
    rintro e w33 ⟨rfl, hb⟩
    refine ⟨_, rfl, ?_⟩
    replace BK292 := am (blk_below (pk BK292.out) hb);replace BK293 := am (blk_below (pk BK293.out) hb);replace HB := am (below_step (pb HB) hb)
    (try clear hb)
    (try clear hb2)
    (try clear hk)
    (try clear hi)
    refine hK.out _ _ ⟨ce BK292 0, ce BK292 1, ce BK292 2, ce BK292 3⟩ (fun hHeld => ?_)
    clear hK K
    refine nm ?_
    refine pu 5 ?_
    refine pu 6 ?_
    refine last_ (i := 7) (N := none) #[true, true, true, true, true, true, true, true] rfl rfl (one_of HT_.out (by kernel_rfl)) (by decide) (fun K hK => ?_)
    have hs34 : w33.cell? ⟨gb292, 1, none⟩ = some (.int .u64 (Go.bits .xor .u64 t294 (IntKind.u64.wrap (x293000_1 + x293001_1)))) := ce BK292 1;have hfs34 := blk_frozen BK292.out 1;have hns34_1 := NB293_292.out;have hms34_1 := NB292_293.out
    refine skip_ (w1 := ?_) (by rfl) rfl ?_ ?_
    rotate_left
    ·go_simp
     rfl
    refine hK.out _ _ ?_
    clear hK K
    refine done_ (done_of HT_.out (by kernel_rfl)) ?_
    obtain ⟨hcz35_0, hcz35_1, hcz35_2, hcz35_3, hfz35_0, hfz35_1, hfz35_2, hfz35_3⟩ := g4 BK292
    try go_wp2_with (first | ((with_reducible refine gate_callee (f := 48) rfl ?_); refine gl (some 69) Try.func48 #[.int .u64 (IntKind.u64.wrap ((IntKind.u64.wrap (x293002_1 + x293003_1)) + (Go.bits .xor .u64 t294 (IntKind.u64.wrap (x293000_1 + x293001_1))))), .int .u64 32] ?_; (with_reducible refine (r05_left.calls (IntKind.u64.wrap ((IntKind.u64.wrap (x293002_1 + x293003_1)) + (Go.bits .xor .u64 t294 (IntKind.u64.wrap (x293000_1 + x293001_1))))) 32 t299 _ A11.out).mono ?_); rintro e w36 ⟨rfl, hb⟩; refine ⟨_, rfl, ?_⟩; replace BK292 := am (blk_below (g := gb292) (o := .cells #[.int .u64 (IntKind.u64.wrap (t295 + (Go.bits .xor .u64 t296 (IntKind.u64.wrap (x293002_1 + x293003_1))))), .int .u64 (Go.bits .xor .u64 t298 (IntKind.u64.wrap ((IntKind.u64.wrap (x293002_1 + x293003_1)) + (Go.bits .xor .u64 t294 (IntKind.u64.wrap (x293000_1 + x293001_1)))))), .int .u64 (IntKind.u64.wrap ((IntKind.u64.wrap (x293002_1 + x293003_1)) + (Go.bits .xor .u64 t294 (IntKind.u64.wrap (x293000_1 + x293001_1))))), .int .u64 (Go.bits .xor .u64 t297 (IntKind.u64.wrap (t295 + (Go.bits .xor .u64 t296 (IntKind.u64.wrap (x293002_1 + x293003_1))))))] 75 (0, 0)) (by refine pk ?_; refine blk_put (cs := #[.int .u64 (IntKind.u64.wrap (t295 + (Go.bits .xor .u64 t296 (IntKind.u64.wrap (x293002_1 + x293003_1))))), .int .u64 (Go.bits .xor .u64 t294 (IntKind.u64.wrap (x293000_1 + x293001_1))), .int .u64 (IntKind.u64.wrap ((IntKind.u64.wrap (x293002_1 + x293003_1)) + (Go.bits .xor .u64 t294 (IntKind.u64.wrap (x293000_1 + x293001_1))))), .int .u64 (Go.bits .xor .u64 t297 (IntKind.u64.wrap (t295 + (Go.bits .xor .u64 t296 (IntKind.u64.wrap (x293002_1 + x293003_1))))))]) ?_ 1 _ rfl; refine pk ?_; exact BK292.out) hb); replace BK293 := am (blk_below (g := gb293) (o := .cells #[.int .u64 0, .int .u64 0, .int .u64 0, .int .u64 0] 75 (0, 0)) (by refine pk ?_; refine blk_far ?_ NB293_292.out _; refine pk ?_; exact BK293.out) hb); replace HB := am (below_step (pb HB) hb); (try clear hb); (try clear hb2); (try clear hk); (try clear hi); obtain ⟨hcz37_0, hcz37_1, hcz37_2, hcz37_3, hfz37_0, hfz37_1, hfz37_2, hfz37_3⟩ := g4 BK292))
    go_roundg k1
    case measure => have := HK1.out; omega
    case rel => exact ⟨(wrap64 (x5_1 + 1)), (IntKind.u64.wrap (t295 + (Go.bits .xor .u64 t296 (IntKind.u64.wrap (x293002_1 + x293003_1))))), (Go.bits .xor .u64 t298 (IntKind.u64.wrap ((IntKind.u64.wrap (x293002_1 + x293003_1)) + (Go.bits .xor .u64 t294 (IntKind.u64.wrap (x293000_1 + x293001_1)))))), (t299), (Go.bits .xor .u64 t297 (IntKind.u64.wrap (t295 + (Go.bits .xor .u64 t296 (IntKind.u64.wrap (x293002_1 + x293003_1)))))), (by first | rfl | (simp; done) | (simp [*]; done)), H', ⟨by have := HK1.out; omega⟩, ⟨by refine pk ?_; refine blk_put (cs := #[.int .u64 (IntKind.u64.wrap (t295 + (Go.bits .xor .u64 t296 (IntKind.u64.wrap (x293002_1 + x293003_1))))), .int .u64 (Go.bits .xor .u64 t298 (IntKind.u64.wrap ((IntKind.u64.wrap (x293002_1 + x293003_1)) + (Go.bits .xor .u64 t294 (IntKind.u64.wrap (x293000_1 + x293001_1)))))), .int .u64 (IntKind.u64.wrap ((IntKind.u64.wrap (x293002_1 + x293003_1)) + (Go.bits .xor .u64 t294 (IntKind.u64.wrap (x293000_1 + x293001_1))))), .int .u64 (Go.bits .xor .u64 t297 (IntKind.u64.wrap (t295 + (Go.bits .xor .u64 t296 (IntKind.u64.wrap (x293002_1 + x293003_1))))))]) ?_ 2 _ rfl; refine pk ?_; exact BK292.out⟩, ⟨by refine pk ?_; refine blk_far ?_ NB293_292.out _; refine pk ?_; exact BK293.out⟩, ⟨pb HB⟩⟩
   ·rw [if_neg c5] at H;have c5b0 : decide (x5_1 < a1) = false := decide_eq_false c5;clear c5
    simp only [Option.some.injEq, Prod.mk.injEq] at H
    obtain ⟨rfl, rfl, rfl, rfl⟩ := H;have hnb38 := NB292_293.out;have hnc38 := NB293_292.out;obtain ⟨hcz39_0, hcz39_1, hcz39_2, hcz39_3, hfz39_0, hfz39_1, hfz39_2, hfz39_3⟩ := g4 BK292;obtain ⟨hcz40_0, hcz40_1, hcz40_2, hcz40_3, hfz40_0, hfz40_1, hfz40_2, hfz40_3⟩ := g4 BK293
    go_wp2
    refine bodyPost_ret (results_cell_row rfl _ _ gb293 75 #[.int .u64 x293000_1, .int .u64 x293001_1, .int .u64 x293002_1, .int .u64 x293003_1] (0, 0) _ rfl (by refine pk ?_; refine blk_put (cs := #[.int .u64 x293000_1, .int .u64 x293001_1, .int .u64 x293002_1, .int .u64 0]) ?_ 3 _ rfl; refine pk ?_; refine blk_put (cs := #[.int .u64 x293000_1, .int .u64 x293001_1, .int .u64 0, .int .u64 0]) ?_ 2 _ rfl; refine pk ?_; refine blk_put (cs := #[.int .u64 x293000_1, .int .u64 0, .int .u64 0, .int .u64 0]) ?_ 1 _ rfl; refine pk ?_; refine blk_put (cs := #[.int .u64 0, .int .u64 0, .int .u64 0, .int .u64 0]) ?_ 0 _ rfl; refine pk ?_; exact BK293.out) Try.underlying75 rfl (by kernel_rfl)) rfl ?_
    exact ⟨by first | rfl | (simp [errW_none, errW_some] <;> rfl) | (simp [*, errW_none, errW_some] <;> rfl), pb HB⟩
end Go.Proofs.Ytmfffbafldbihaa.H
