import Derived.Test.YtmfffbafldbihaaHx0
import Derived.Test.YtmfffbafldbihaaHx7
namespace Go.Proofs.Ytmfffbafldbihaa.H
open Go.RowKit Go.Proofs.YtmfffbafldbihaaW.PrintWords Go.Proofs.YtmfffbafldbihaaW.PrintLast Go.Proofs.YtmfffbafldbihaaW.PrintMore Go.Proofs.YtmfffbafldbihaaW.Sq
attribute [local go_sem] max2_int min2_int max_two min_two max_three min_three max_four min_four
set_option linter.unusedVariables false
set_option linter.unusedSimpArgs false

def sip_Done.l0 : Nat → Int → Int → Int → Int → Int → Option (Int)
 | 0, _, _, _, _, _ => none
 | k + 1, x22, x154000, x154001, x154002, x154003 => if x22 < 4 then ((sip_turn.f x154000 x154001 x154002 x154003).bind fun bt154 => (sip_Done.l0 k (wrap64 (x22 + 1)) bt154.1 bt154.2.1 bt154.2.2.1 bt154.2.2.2)) else (some (Go.bits .xor .u64 (Go.bits .xor .u64 (Go.bits .xor .u64 x154000 x154001) x154002) x154003))
def sip_Done.f (k : Nat) (a0_0 : Int) (a0_1 : Int) (a0_2 : Int) (a0_3 : Int) (a0_4 : ByteArray) (a0_5 : Int) : Option (Int) := (sip_right.f a0_0 a0_1 a0_2 a0_3 a0_4 a0_5).bind fun t147 => (if t147 = true then ((sip_number.f k a0_4).bind fun t148 => ((sip_take.f a0_0 a0_1 a0_2 a0_3 (Go.bits .or .u64 t148 (IntKind.u64.wrap ((IntKind.u64.wrap (a0_5)) * 72057594037927936)))).bind fun bt149 => (sip_Done.l0 k 0 bt149.1 bt149.2.1 (Go.bits .xor .u64 bt149.2.2.1 255) bt149.2.2.2))) else (some 0))
theorem sip_Done.mono_l : ∀ k, (∀ y0 y1 y2 y3 y4, LeO (sip_Done.l0 k y0 y1 y2 y3 y4) (sip_Done.l0 (k + 1) y0 y1 y2 y3 y4))
 | 0 => fun _ _ _ _ _ r h => by simp [sip_Done.l0] at h
 | k + 1 => by
  have ih0 := sip_Done.mono_l k
  ·intro y0 y1 y2 y3 y4
   unfold sip_Done.l0
   repeat' first
   | (with_reducible exact ih0 _ _ _ _ _)
   | (with_reducible exact sip_number.mono _ _)
   | (with_reducible exact LeO.refl _)
   | (with_reducible exact LeO.none _)
   | (with_reducible refine LeO.ite ?_ ?_)
   | (with_reducible refine LeO.bind ?_ (fun _ => ?_))
theorem sip_Done.mono : ∀ a0 a1 a2 a3 a4 a5 k, LeO (sip_Done.f k a0 a1 a2 a3 a4 a5) (sip_Done.f (k + 1) a0 a1 a2 a3 a4 a5) := by
 intro a0 a1 a2 a3 a4 a5 k
 have ih0 := sip_Done.mono_l k
 unfold sip_Done.f
 repeat' first
   | (with_reducible exact ih0 _ _ _ _ _)
   | (with_reducible exact sip_number.mono _ _)
   | (with_reducible exact LeO.refl _)
   | (with_reducible exact LeO.none _)
   | (with_reducible refine LeO.ite ?_ ?_)
   | (with_reducible refine LeO.bind ?_ (fun _ => ?_))
def sip_Done.T3 : Bool × List (List Nat × List Nat) := (true, [([], []), ([0], [0]), ([], []), ([2], [2]), ([3], [3]), ([], []), ([5], [5]), ([6], [6]), ([7], [7]), ([4, 8], [4, 8]), ([1, 9, 4], [1, 9]), ([], []), ([11, 10, 10, 0, 1, 2, 3, 4, 5, 6, 7, 8, 9, 10, 11], [10, 11])])
def sip_Done.B3 : List Nat := [0, 1, 0, 4, 12, 0, 32, 96, 224, 508, 1023, 0, 4095]
theorem sip_Done.tab3 : rtab .any (opsOf Try.f40 3) = sip_Done.T3 := by kernel_rfl
theorem sip_Done.bits3 : waitsOk sip_Done.T3.2 sip_Done.B3 = true := by kernel_rfl
set_option maxHeartbeats 8000000 in
set_option maxRecDepth 100000 in
theorem sip_Done.calls (k : Nat) (a0_0 : Int) (a0_1 : Int) (a0_2 : Int) (a0_3 : Int) (a0_4 : ByteArray) (a0_5 : Int) (r : Int) (w : World) (h : sip_Done.f k a0_0 a0_1 a0_2 a0_3 a0_4 a0_5 = some r) :
  Calls Try.prog 40 #[.agg #[.int .u64 a0_0, .int .u64 a0_1, .int .u64 a0_2, .int .u64 a0_3, .string a0_4, .int .i64 a0_5]] w fun e w' => e = .returned (.int .u64 r) ∧ Below w.heap.size w w' := by
 have hu85 := Try.underlying85;have hu75 := Try.underlying75;have HB := am (Below.refl w.heap.size w);have H : ((sip_right.f a0_0 a0_1 a0_2 a0_3 a0_4 a0_5).bind fun t147 => (if t147 = true then ((sip_number.f k a0_4).bind fun t148 => ((sip_take.f a0_0 a0_1 a0_2 a0_3 (Go.bits .or .u64 t148 (IntKind.u64.wrap ((IntKind.u64.wrap (a0_5)) * 72057594037927936)))).bind fun bt149 => (sip_Done.l0 k 0 bt149.1 bt149.2.1 (Go.bits .xor .u64 bt149.2.2.1 255) bt149.2.2.2))) else (some 0))) = some r := h;clear h;replace H := Option.bind_eq_some_iff.mp H;obtain ⟨t147, A20, H⟩ := H
 try dsimp only at H
 have A2 := am A20;clear A20
 by_cases c3 : t147 = true
 rotate_left
 ·replace c3 := Bool.eq_false_iff.mpr c3;subst c3
  have H1 : (some 0) = some r := by rw [if_neg (show ¬ (false = true) by decide)] at H; exact H
  clear H;have H := H1;clear H1;obtain rfl := Option.some.inj H
  go_enter Try.func40, Try.ntmps40
  go_wp2_with (first | ((with_reducible refine gate_dst (N := 1) rfl ?_); refine be 1 #[.int .u64 a0_0, .int .u64 a0_1, .int .u64 a0_2, .int .u64 a0_3, .string a0_4, .int .i64 a0_5] 85 ?_; intro gb146 hg w27 hbox hb; have BK146 := am (hbox); have GW146 := am ((pg hg HB : w.heap.size ≤ gb146)); have GE146 := am ((pg hg HB : w.heap.size ≤ gb146)); replace HB := am (below_step (pb HB) hb); clear hb hbox hg; obtain ⟨hcz28_0, hcz28_1, hcz28_2, hcz28_3, hcz28_4, hcz28_5, hfz28_0, hfz28_1, hfz28_2, hfz28_3, hfz28_4, hfz28_5⟩ := g6 BK146) | ((with_reducible refine gate_callee (f := 54) rfl ?_); refine gl (some 5) Try.func54 #[.agg #[.int .u64 a0_0, .int .u64 a0_1, .int .u64 a0_2, .int .u64 a0_3, .string a0_4, .int .i64 a0_5]] ?_; (with_reducible refine (sip_right.calls a0_0 a0_1 a0_2 a0_3 a0_4 a0_5 false _ A2.out).mono ?_); rintro e w29 ⟨rfl, hb⟩; refine ⟨_, rfl, ?_⟩; replace BK146 := am (blk_below (pk BK146.out) hb); replace HB := am (below_step (pb HB) hb); (try clear hb); (try clear hb2); (try clear hk); (try clear hi)))
  go_ret
  exact ⟨by first | rfl | (simp [errW_none, errW_some] <;> rfl) | (simp [*, errW_none, errW_some] <;> rfl), pb HB⟩
 subst c3
 have H1 : ((sip_number.f k a0_4).bind fun t148 => ((sip_take.f a0_0 a0_1 a0_2 a0_3 (Go.bits .or .u64 t148 (IntKind.u64.wrap ((IntKind.u64.wrap (a0_5)) * 72057594037927936)))).bind fun bt149 => (sip_Done.l0 k 0 bt149.1 bt149.2.1 (Go.bits .xor .u64 bt149.2.2.1 255) bt149.2.2.2))) = some r := by rw [if_pos rfl] at H; exact H
 clear H;have H := H1;clear H1;replace H := Option.bind_eq_some_iff.mp H;obtain ⟨t148, A40, H⟩ := H
 try dsimp only at H
 have A4 := am A40;clear A40;replace H := Option.bind_eq_some_iff.mp H;obtain ⟨⟨t149, t150, t151, t152⟩, A50, H⟩ := H
 try dsimp only at H
 have A5 := am A50;clear A50;have H' := am H;clear H
 go_enter Try.func40, Try.ntmps40
 try go_wp2_with (first | ((with_reducible refine gate_dst (N := 1) rfl ?_); refine be 1 #[.int .u64 a0_0, .int .u64 a0_1, .int .u64 a0_2, .int .u64 a0_3, .string a0_4, .int .i64 a0_5] 85 ?_; intro gb146 hg w6 hbox hb; have BK146 := am (hbox); have GW146 := am ((pg hg HB : w.heap.size ≤ gb146)); have GE146 := am ((pg hg HB : w.heap.size ≤ gb146)); replace HB := am (below_step (pb HB) hb); clear hb hbox hg; obtain ⟨hcz7_0, hcz7_1, hcz7_2, hcz7_3, hcz7_4, hcz7_5, hfz7_0, hfz7_1, hfz7_2, hfz7_3, hfz7_4, hfz7_5⟩ := g6 BK146) | ((with_reducible refine gate_callee (f := 54) rfl ?_); refine gl (some 5) Try.func54 #[.agg #[.int .u64 a0_0, .int .u64 a0_1, .int .u64 a0_2, .int .u64 a0_3, .string a0_4, .int .i64 a0_5]] ?_; (with_reducible refine (sip_right.calls a0_0 a0_1 a0_2 a0_3 a0_4 a0_5 true _ A2.out).mono ?_); rintro e w8 ⟨rfl, hb⟩; refine ⟨_, rfl, ?_⟩; replace BK146 := am (blk_below (pk BK146.out) hb); replace HB := am (below_step (pb HB) hb); (try clear hb); (try clear hb2); (try clear hk); (try clear hi)))
 replace BK146 := am (blk_drew BK146.out);replace HB := am (below_drew1 HB.out)
 refine start_ (n := 13) (S := fun w' => w'.cell? ⟨gb146, 0, none⟩ = some (.int .u64 a0_0) ∧ w'.cell? ⟨gb146, 1, none⟩ = some (.int .u64 a0_1) ∧ w'.cell? ⟨gb146, 2, none⟩ = some (.int .u64 a0_2) ∧ w'.cell? ⟨gb146, 3, none⟩ = some (.int .u64 a0_3) ∧ w'.cell? ⟨gb146, 4, none⟩ = some (.string a0_4) ∧ w'.cell? ⟨gb146, 5, none⟩ = some (.int .i64 a0_5)) (ds := []) #[false, false, false, false, false, false, false, false, false, false, false, false, false] (by kernel_rfl) rfl rfl ⟨ce BK146 0, ce BK146 1, ce BK146 2, ce BK146 3, ce BK146 4, ce BK146 5⟩ (fun hHeld => ?_); refine with_tabW sip_Done.tab3 sip_Done.bits3 (fun HT_ HW_ => ?_)
 generalize w8.drew = w9 at BK146 HB hHeld ⊢
 refine pu 0 ?_
 refine pu 2 ?_
 refine pu 5 ?_
 refine ta 1 hHeld ?_
 refine ta 3 hHeld ?_
 refine ta 6 hHeld ?_
 refine pu 7 ?_
 refine pu 8 ?_
 refine join_ (σ := Nat) 1 #[true, true, true, true, true, true, true, true, true, true, true, true, false] (fun s_ => [(11, .int .u64 t148), (17, .agg #[.int .u64 t149, .int .u64 t150, .int .u64 t151, .int .u64 t152]), (3, .pointer (some ⟨s_, 0, none⟩)), (16, .int .u64 (Go.bits .or .u64 t148 (IntKind.u64.wrap ((IntKind.u64.wrap (a0_5)) * 72057594037927936))))]) (fun s_ w' => (w'.cell? ⟨gb146, 0, none⟩ = some (.int .u64 a0_0) ∧ w'.cell? ⟨gb146, 1, none⟩ = some (.int .u64 a0_1) ∧ w'.cell? ⟨gb146, 2, none⟩ = some (.int .u64 a0_2) ∧ w'.cell? ⟨gb146, 3, none⟩ = some (.int .u64 a0_3) ∧ w'.cell? ⟨gb146, 4, none⟩ = some (.string a0_4) ∧ w'.cell? ⟨gb146, 5, none⟩ = some (.int .i64 a0_5)) ∧ (w'.heap[gb146]? = some (.cells #[.int .u64 a0_0, .int .u64 a0_1, .int .u64 a0_2, .int .u64 a0_3, .string a0_4, .int .i64 a0_5] 85 (0, 0))) ∧ (w'.heap[s_]? = some (.cells #[.int .u64 0, .int .u64 0, .int .u64 0, .int .u64 0] 75 (0, 0))) ∧ (w.heap.size ≤ s_) ∧ (w.heap.size ≤ s_) ∧ (gb146 ≠ s_) ∧ (s_ ≠ gb146) ∧ (Below w.heap.size w w')) ?_ ?_
 ·rintro gb153 w12 ⟨hS_, h0_, h1_, h2_, h3_, h4_, h5_, h6_⟩
  replace BK146 : Aside0 (w12.heap[gb146]? = some (.cells #[.int .u64 a0_0, .int .u64 a0_1, .int .u64 a0_2, .int .u64 a0_3, .string a0_4, .int .i64 a0_5] 85 (0, 0))) := ⟨h0_⟩;have BK153 : Aside0 (w12.heap[gb153]? = some (.cells #[.int .u64 0, .int .u64 0, .int .u64 0, .int .u64 0] 75 (0, 0))) := ⟨h1_⟩;have GW153 : Aside0 (w.heap.size ≤ gb153) := ⟨h2_⟩;have GE153 : Aside0 (w.heap.size ≤ gb153) := ⟨h3_⟩;have NB146_153 : Aside0 (gb146 ≠ gb153) := ⟨h4_⟩;have NB153_146 : Aside0 (gb153 ≠ gb146) := ⟨h5_⟩;replace HB : Aside0 (Below w.heap.size w w12) := ⟨h6_⟩;clear h0_ h1_ h2_ h3_ h4_ h5_ h6_;have hHeld : w12.cell? ⟨gb146, 0, none⟩ = some (.int .u64 a0_0) ∧ w12.cell? ⟨gb146, 1, none⟩ = some (.int .u64 a0_1) ∧ w12.cell? ⟨gb146, 2, none⟩ = some (.int .u64 a0_2) ∧ w12.cell? ⟨gb146, 3, none⟩ = some (.int .u64 a0_3) ∧ w12.cell? ⟨gb146, 4, none⟩ = some (.string a0_4) ∧ w12.cell? ⟨gb146, 5, none⟩ = some (.int .i64 a0_5) := hS_
  refine norm_ (a' := ?_) ?_ ?_
  rotate_left
  ·simp only [putAll, Act.put, List.setIfInBounds_toArray, List.set_cons_zero, List.set_cons_succ]
   rfl
  refine one_ (i := 12) (N := none) #[true, true, true, true, true, true, true, true, true, true, true, true, true] rfl rfl (one_of HT_.out (by kernel_rfl)) (by decide) (fun K hK => ?_)
  have hs13 : w12.cell? ⟨gb153, 0, none⟩ = some (.int .u64 0) := ce BK153 0;have hfs13 := blk_frozen BK153.out 0;have hns13_0 := NB146_153.out;have hms13_0 := NB153_146.out;have hs14 : w12.cell? ⟨gb153, 1, none⟩ = some (.int .u64 0) := ce BK153 1;have hfs14 := blk_frozen BK153.out 1;have hns14_0 := NB146_153.out;have hms14_0 := NB153_146.out;have hs15 : w12.cell? ⟨gb153, 2, none⟩ = some (.int .u64 0) := ce BK153 2;have hfs15 := blk_frozen BK153.out 2;have hns15_0 := NB146_153.out;have hms15_0 := NB153_146.out;have hs16 : w12.cell? ⟨gb153, 3, none⟩ = some (.int .u64 0) := ce BK153 3;have hfs16 := blk_frozen BK153.out 3;have hns16_0 := NB146_153.out;have hms16_0 := NB153_146.out
  refine skip_ (w1 := ?_) (by rfl) rfl ?_ ?_
  rotate_left
  ·go_simp
   rfl
  refine hK.out _ _ ⟨((cell_far (p := ⟨gb153, _, none⟩) NB146_153.out _).trans (((cell_far (p := ⟨gb153, _, none⟩) NB146_153.out _).trans (((cell_far (p := ⟨gb153, _, none⟩) NB146_153.out _).trans (((cell_far (p := ⟨gb153, _, none⟩) NB146_153.out _).trans (hHeld.1)))))))), ((cell_far (p := ⟨gb153, _, none⟩) NB146_153.out _).trans (((cell_far (p := ⟨gb153, _, none⟩) NB146_153.out _).trans (((cell_far (p := ⟨gb153, _, none⟩) NB146_153.out _).trans (((cell_far (p := ⟨gb153, _, none⟩) NB146_153.out _).trans (hHeld.2.1)))))))), ((cell_far (p := ⟨gb153, _, none⟩) NB146_153.out _).trans (((cell_far (p := ⟨gb153, _, none⟩) NB146_153.out _).trans (((cell_far (p := ⟨gb153, _, none⟩) NB146_153.out _).trans (((cell_far (p := ⟨gb153, _, none⟩) NB146_153.out _).trans (hHeld.2.2.1)))))))), ((cell_far (p := ⟨gb153, _, none⟩) NB146_153.out _).trans (((cell_far (p := ⟨gb153, _, none⟩) NB146_153.out _).trans (((cell_far (p := ⟨gb153, _, none⟩) NB146_153.out _).trans (((cell_far (p := ⟨gb153, _, none⟩) NB146_153.out _).trans (hHeld.2.2.2.1)))))))), ((cell_far (p := ⟨gb153, _, none⟩) NB146_153.out _).trans (((cell_far (p := ⟨gb153, _, none⟩) NB146_153.out _).trans (((cell_far (p := ⟨gb153, _, none⟩) NB146_153.out _).trans (((cell_far (p := ⟨gb153, _, none⟩) NB146_153.out _).trans (hHeld.2.2.2.2.1)))))))), ((cell_far (p := ⟨gb153, _, none⟩) NB146_153.out _).trans (((cell_far (p := ⟨gb153, _, none⟩) NB146_153.out _).trans (((cell_far (p := ⟨gb153, _, none⟩) NB146_153.out _).trans (((cell_far (p := ⟨gb153, _, none⟩) NB146_153.out _).trans (hHeld.2.2.2.2.2))))))))⟩ (fun hHeld => ?_)
  clear hK K
  refine done_ (done_of HT_.out (by kernel_rfl)) ?_
  have hnb17 := NB153_146.out;have hnc17 := NB146_153.out;obtain ⟨hcz18_0, hcz18_1, hcz18_2, hcz18_3, hfz18_0, hfz18_1, hfz18_2, hfz18_3⟩ := g4 BK153
  try go_wp2
  go_loopg [22] k (fun kq v22 w' => ∃ (x22_1 : Int) (x154000_1 : Int) (x154001_1 : Int) (x154002_1 : Int) (x154003_1 : Int), v22 = .int .i64 x22_1 ∧ Aside0 (sip_Done.l0 kq x22_1 x154000_1 x154001_1 x154002_1 x154003_1 = some r) ∧ Aside0 (kq ≤ k) ∧ Aside0 (w'.heap[gb146]? = some (.cells #[.int .u64 a0_0, .int .u64 a0_1, .int .u64 a0_2, .int .u64 a0_3, .string a0_4, .int .i64 a0_5] 85 (0, 0))) ∧ Aside0 (w'.heap[gb153]? = some (.cells #[.int .u64 x154000_1, .int .u64 x154001_1, .int .u64 x154002_1, .int .u64 x154003_1] 75 (0, 0))) ∧ Aside0 (Below w.heap.size w w'))
  case atStart => exact ⟨(0), (t149), (t150), (Go.bits .xor .u64 t151 255), (t152), (by first | rfl | (simp; done) | (simp [*]; done)), H', ⟨Nat.le_refl _⟩, ⟨by refine pk ?_; refine blk_far ?_ NB146_153.out _; refine pk ?_; refine blk_far ?_ NB146_153.out _; refine pk ?_; refine blk_far ?_ NB146_153.out _; refine pk ?_; refine blk_far ?_ NB146_153.out _; refine pk ?_; refine blk_far ?_ NB146_153.out _; refine pk ?_; exact BK146.out⟩, ⟨by refine pk ?_; refine blk_put (cs := #[.int .u64 t149, .int .u64 t150, .int .u64 t151, .int .u64 t152]) ?_ 2 _ rfl; refine pk ?_; refine blk_put (cs := #[.int .u64 t149, .int .u64 t150, .int .u64 t151, .int .u64 0]) ?_ 3 _ rfl; refine pk ?_; refine blk_put (cs := #[.int .u64 t149, .int .u64 t150, .int .u64 0, .int .u64 0]) ?_ 2 _ rfl; refine pk ?_; refine blk_put (cs := #[.int .u64 t149, .int .u64 0, .int .u64 0, .int .u64 0]) ?_ 1 _ rfl; refine pk ?_; refine blk_put (cs := #[.int .u64 0, .int .u64 0, .int .u64 0, .int .u64 0]) ?_ 0 _ rfl; refine pk ?_; exact BK153.out⟩, ⟨pb HB⟩⟩
  case round =>
   clear H';(try clear c1);(try clear p2);(try clear c3);(try clear c4);(try clear c5);(try clear c17);(try clear hcz18_0 hcz18_1 hcz18_2 hcz18_3);(try clear hcz7_0 hcz7_1 hcz7_2 hcz7_3 hcz7_4 hcz7_5);(try clear hfz18_0 hfz18_1 hfz18_2 hfz18_3);(try clear hfz7_0 hfz7_1 hfz7_2 hfz7_3 hfz7_4 hfz7_5);obtain ⟨x22_1, x154000_1, x154001_1, x154002_1, x154003_1, rfl, HA, HK1, BK146, BK153, HB⟩ := hrel
   cases gk with
   | zero => exact absurd HA.out (by simp [sip_Done.l0])
   | succ k1 =>
    have H := HA.out;clear HA
    simp only [sip_Done.l0] at H
    by_cases c19 : x22_1 < 4
    ·rw [if_pos c19] at H;have c19b0 : decide (x22_1 < 4) = true := decide_eq_true c19;clear c19;replace H := Option.bind_eq_some_iff.mp H;obtain ⟨⟨t154, t155, t156, t157⟩, A200, H⟩ := H
     try dsimp only at H
     have A20 := am A200;clear A200;have H' := am H;clear H;have hnb21 := NB153_146.out;have hnc21 := NB146_153.out;obtain ⟨hcz22_0, hcz22_1, hcz22_2, hcz22_3, hfz22_0, hfz22_1, hfz22_2, hfz22_3⟩ := g4 BK153
     go_wp2_with (first | ((with_reducible refine gate_callee (f := 57) rfl ?_); refine gl (some 25) Try.func57 #[.agg #[.int .u64 x154000_1, .int .u64 x154001_1, .int .u64 x154002_1, .int .u64 x154003_1]] ?_; (with_reducible refine (sip_turn.calls x154000_1 x154001_1 x154002_1 x154003_1 t154 t155 t156 t157 _ A20.out).mono ?_); rintro e w23 ⟨rfl, hb⟩; refine ⟨_, rfl, ?_⟩; replace BK146 := am (blk_below (pk BK146.out) hb); replace BK153 := am (blk_below (pk BK153.out) hb); replace HB := am (below_step (pb HB) hb); (try clear hb); (try clear hb2); (try clear hk); (try clear hi); obtain ⟨hcz24_0, hcz24_1, hcz24_2, hcz24_3, hfz24_0, hfz24_1, hfz24_2, hfz24_3⟩ := g4 BK153))
     go_roundg k1
     case measure => have := HK1.out; omega
     case rel => exact ⟨(wrap64 (x22_1 + 1)), (t154), (t155), (t156), (t157), (by first | rfl | (simp; done) | (simp [*]; done)), H', ⟨by have := HK1.out; omega⟩, ⟨by refine pk ?_; refine blk_far ?_ NB146_153.out _; refine pk ?_; refine blk_far ?_ NB146_153.out _; refine pk ?_; refine blk_far ?_ NB146_153.out _; refine pk ?_; refine blk_far ?_ NB146_153.out _; refine pk ?_; exact BK146.out⟩, ⟨by refine pk ?_; refine blk_put (cs := #[.int .u64 t154, .int .u64 t155, .int .u64 t156, .int .u64 x154003_1]) ?_ 3 _ rfl; refine pk ?_; refine blk_put (cs := #[.int .u64 t154, .int .u64 t155, .int .u64 x154002_1, .int .u64 x154003_1]) ?_ 2 _ rfl; refine pk ?_; refine blk_put (cs := #[.int .u64 t154, .int .u64 x154001_1, .int .u64 x154002_1, .int .u64 x154003_1]) ?_ 1 _ rfl; refine pk ?_; refine blk_put (cs := #[.int .u64 x154000_1, .int .u64 x154001_1, .int .u64 x154002_1, .int .u64 x154003_1]) ?_ 0 _ rfl; refine pk ?_; exact BK153.out⟩, ⟨pb HB⟩⟩
    ·rw [if_neg c19] at H;have c19b0 : decide (x22_1 < 4) = false := decide_eq_false c19;clear c19;obtain rfl := Option.some.inj H;have hnb25 := NB153_146.out;have hnc25 := NB146_153.out;obtain ⟨hcz26_0, hcz26_1, hcz26_2, hcz26_3, hfz26_0, hfz26_1, hfz26_2, hfz26_3⟩ := g4 BK153
     go_wp2
     go_ret
     exact ⟨by first | rfl | (simp [errW_none, errW_some] <;> rfl) | (simp [*, errW_none, errW_some] <;> rfl), pb HB⟩
 intro hCont
 refine two_ (i := 4) (j := 11) (Ni := some 11) (Nj := some 3) #[true, true, true, true, true, true, true, true, true, false, false, false, false] #[true, true, true, true, false, true, true, true, true, false, false, true, false] rfl rfl rfl rfl (two_of HT_.out (by kernel_rfl)) (by decide) (by decide) (fun K hK => ?_) (fun K hK => ?_)
 rotate_left
 ·skip
  refine bx 3 #[.int .u64 0, .int .u64 0, .int .u64 0, .int .u64 0] 75 ?_
  intro gb153 hg w10 hbox hb
  have n0_ := am (blk_below (pk BK146.out) hb);have n1_ := am (below_step (pb HB) hb);have n2_ := am (hbox);have n3_ := am ((pg hg HB : w.heap.size ≤ gb153));have n4_ := am ((pg hg HB : w.heap.size ≤ gb153));have n5_ := am ((pl hg (pk BK146.out) : gb146 ≠ gb153));have n6_ := am ((pl' hg (pk BK146.out) : gb153 ≠ gb146));clear BK146 HB;have BK146 := n0_;have HB := n1_;have BK153 := n2_;have GW153 := n3_;have GE153 := n4_;have NB146_153 := n5_;have NB153_146 := n6_;clear n0_ n1_ n2_ n3_ n4_ n5_ n6_ hb hbox hg
  refine hK.out _ _ ⟨ce BK146 0, ce BK146 1, ce BK146 2, ce BK146 3, ce BK146 4, ce BK146 5⟩ (fun hHeld => ?_)
  clear hK K
  refine nm ?_
  refine on1 4 (fun K hK => ?_)
  refine gs Try.func56 #[.string a0_4] ?_
  with_reducible refine (sip_number.calls k a0_4 t148 _ A4.out).mono ?_
  rintro e w' ⟨rfl, ⟨nd, rfl⟩⟩
  refine ⟨_, rfl, ?_⟩
  refine hK.out _ _ ⟨ce BK146 0, ce BK146 1, ce BK146 2, ce BK146 3, ce BK146 4, ce BK146 5⟩ (fun hHeld => ?_)
  clear hK K
  refine nm ?_
  refine pu 9 ?_
  refine on1 10 (fun K hK => ?_)
  refine gs Try.func55 #[.agg #[.int .u64 a0_0, .int .u64 a0_1, .int .u64 a0_2, .int .u64 a0_3], .int .u64 (Go.bits .or .u64 t148 (IntKind.u64.wrap ((IntKind.u64.wrap (a0_5)) * 72057594037927936)))] ?_
  with_reducible refine (sip_take.calls a0_0 a0_1 a0_2 a0_3 (Go.bits .or .u64 t148 (IntKind.u64.wrap ((IntKind.u64.wrap (a0_5)) * 72057594037927936))) t149 t150 t151 t152 _ A5.out).mono ?_
  rintro e w11 ⟨rfl, hb⟩
  refine ⟨_, rfl, ?_⟩
  replace BK146 := am (blk_below (pk BK146.out) hb);replace BK153 := am (blk_below (pk BK153.out) hb);replace HB := am (below_step (pb HB) hb)
  (try clear hb)
  (try clear hb2)
  (try clear hk)
  (try clear hi)
  refine hK.out _ _ ⟨ce BK146 0, ce BK146 1, ce BK146 2, ce BK146 3, ce BK146 4, ce BK146 5⟩ (fun hHeld => ?_)
  clear hK K
  refine nm ?_
  exact nj (hCont (gb153) _ ⟨hHeld, (pk BK146.out), (pk BK153.out), GW153.out, GE153.out, NB146_153.out, NB153_146.out, (pb HB)⟩)
 skip
 refine gs Try.func56 #[.string a0_4] ?_
 with_reducible refine (sip_number.calls k a0_4 t148 _ A4.out).mono ?_
 rintro e w' ⟨rfl, ⟨nd, rfl⟩⟩
 refine ⟨_, rfl, ?_⟩
 refine hK.out _ _ ⟨ce BK146 0, ce BK146 1, ce BK146 2, ce BK146 3, ce BK146 4, ce BK146 5⟩ (fun hHeld => ?_)
 clear hK K
 refine nm ?_
 refine pu 9 ?_
 refine two_ (i := 10) (j := 11) (Ni := some 17) (Nj := some 3) #[true, true, true, true, true, true, true, true, true, true, true, false, false] #[true, true, true, true, true, true, true, true, true, true, false, true, false] rfl rfl rfl rfl (two_of HT_.out (by kernel_rfl)) (by decide) (by decide) (fun K hK => ?_) (fun K hK => ?_)
 ·skip
  refine gs Try.func55 #[.agg #[.int .u64 a0_0, .int .u64 a0_1, .int .u64 a0_2, .int .u64 a0_3], .int .u64 (Go.bits .or .u64 t148 (IntKind.u64.wrap ((IntKind.u64.wrap (a0_5)) * 72057594037927936)))] ?_
  with_reducible refine (sip_take.calls a0_0 a0_1 a0_2 a0_3 (Go.bits .or .u64 t148 (IntKind.u64.wrap ((IntKind.u64.wrap (a0_5)) * 72057594037927936))) t149 t150 t151 t152 _ A5.out).mono ?_
  rintro e w10 ⟨rfl, hb⟩
  refine ⟨_, rfl, ?_⟩
  replace BK146 := am (blk_below (pk BK146.out) hb);replace HB := am (below_step (pb HB) hb)
  (try clear hb)
  (try clear hb2)
  (try clear hk)
  (try clear hi)
  refine hK.out _ _ ⟨ce BK146 0, ce BK146 1, ce BK146 2, ce BK146 3, ce BK146 4, ce BK146 5⟩ (fun hHeld => ?_)
  clear hK K
  refine nm ?_
  refine on1 11 (fun K hK => ?_)
  refine bx 3 #[.int .u64 0, .int .u64 0, .int .u64 0, .int .u64 0] 75 ?_
  intro gb153 hg w11 hbox hb
  have n0_ := am (blk_below (pk BK146.out) hb);have n1_ := am (below_step (pb HB) hb);have n2_ := am (hbox);have n3_ := am ((pg hg HB : w.heap.size ≤ gb153));have n4_ := am ((pg hg HB : w.heap.size ≤ gb153));have n5_ := am ((pl hg (pk BK146.out) : gb146 ≠ gb153));have n6_ := am ((pl' hg (pk BK146.out) : gb153 ≠ gb146));clear BK146 HB;have BK146 := n0_;have HB := n1_;have BK153 := n2_;have GW153 := n3_;have GE153 := n4_;have NB146_153 := n5_;have NB153_146 := n6_;clear n0_ n1_ n2_ n3_ n4_ n5_ n6_ hb hbox hg
  refine hK.out _ _ ⟨ce BK146 0, ce BK146 1, ce BK146 2, ce BK146 3, ce BK146 4, ce BK146 5⟩ (fun hHeld => ?_)
  clear hK K
  refine nm ?_
  exact nj (hCont (gb153) _ ⟨hHeld, (pk BK146.out), (pk BK153.out), GW153.out, GE153.out, NB146_153.out, NB153_146.out, (pb HB)⟩)
 skip
 refine bx 3 #[.int .u64 0, .int .u64 0, .int .u64 0, .int .u64 0] 75 ?_
 intro gb153 hg w10 hbox hb
 have n0_ := am (blk_below (pk BK146.out) hb);have n1_ := am (below_step (pb HB) hb);have n2_ := am (hbox);have n3_ := am ((pg hg HB : w.heap.size ≤ gb153));have n4_ := am ((pg hg HB : w.heap.size ≤ gb153));have n5_ := am ((pl hg (pk BK146.out) : gb146 ≠ gb153));have n6_ := am ((pl' hg (pk BK146.out) : gb153 ≠ gb146));clear BK146 HB;have BK146 := n0_;have HB := n1_;have BK153 := n2_;have GW153 := n3_;have GE153 := n4_;have NB146_153 := n5_;have NB153_146 := n6_;clear n0_ n1_ n2_ n3_ n4_ n5_ n6_ hb hbox hg
 refine hK.out _ _ ⟨ce BK146 0, ce BK146 1, ce BK146 2, ce BK146 3, ce BK146 4, ce BK146 5⟩ (fun hHeld => ?_)
 clear hK K
 refine nm ?_
 refine on1 10 (fun K hK => ?_)
 refine gs Try.func55 #[.agg #[.int .u64 a0_0, .int .u64 a0_1, .int .u64 a0_2, .int .u64 a0_3], .int .u64 (Go.bits .or .u64 t148 (IntKind.u64.wrap ((IntKind.u64.wrap (a0_5)) * 72057594037927936)))] ?_
 with_reducible refine (sip_take.calls a0_0 a0_1 a0_2 a0_3 (Go.bits .or .u64 t148 (IntKind.u64.wrap ((IntKind.u64.wrap (a0_5)) * 72057594037927936))) t149 t150 t151 t152 _ A5.out).mono ?_
 rintro e w11 ⟨rfl, hb⟩
 refine ⟨_, rfl, ?_⟩
 replace BK146 := am (blk_below (pk BK146.out) hb);replace BK153 := am (blk_below (pk BK153.out) hb);replace HB := am (below_step (pb HB) hb)
 (try clear hb)
 (try clear hb2)
 (try clear hk)
 (try clear hi)
 refine hK.out _ _ ⟨ce BK146 0, ce BK146 1, ce BK146 2, ce BK146 3, ce BK146 4, ce BK146 5⟩ (fun hHeld => ?_)
 clear hK K
 refine nm ?_
 exact nj (hCont (gb153) _ ⟨hHeld, (pk BK146.out), (pk BK153.out), GW153.out, GE153.out, NB146_153.out, NB153_146.out, (pb HB)⟩)
def sip_Write.l0 : Nat → Int → Int → Int → Int → ByteArray → Int → Option (Int × Int × Int × Int × ByteArray × Int)
 | 0, _, _, _, _, _, _ => none
 | k + 1, x159000, x159001, x159002, x159003, x159004, x159005 => if (x159004.size : Int) ≥ 8 then (if 0 ≤ 8 then (if 8 ≤ (x159004.size : Int) then ((sip_number.f k (x159004.extract 0 8)).bind fun t161 => ((sip_take.f x159000 x159001 x159002 x159003 t161).bind fun bt162 => (sip_Write.l0 k bt162.1 bt162.2.1 bt162.2.2.1 bt162.2.2.2 (x159004.extract 8 x159004.size) x159005))) else (none)) else (none)) else (some (x159000, x159001, x159002, x159003, x159004, x159005))
def sip_Write.f (k : Nat) (a0_0 : Int) (a0_1 : Int) (a0_2 : Int) (a0_3 : Int) (a0_4 : ByteArray) (a0_5 : Int) (a1 : ByteArray) : Option (Int × Int × Int × Int × ByteArray × Int) := (sip_right.f a0_0 a0_1 a0_2 a0_3 a0_4 a0_5).bind fun t160 => (if t160 = true then (if a0_4.size + a1.size ≤ 9223372036854775807 then (sip_Write.l0 k a0_0 a0_1 a0_2 a0_3 (a0_4 ++ a1) (wrap64 (a0_5 + (a1.size : Int)))) else (none)) else (some (a0_0, a0_1, a0_2, a0_3, a0_4, a0_5)))
theorem sip_Write.mono_l : ∀ k, (∀ y0 y1 y2 y3 y4 y5, LeO (sip_Write.l0 k y0 y1 y2 y3 y4 y5) (sip_Write.l0 (k + 1) y0 y1 y2 y3 y4 y5))
 | 0 => fun _ _ _ _ _ _ r h => by simp [sip_Write.l0] at h
 | k + 1 => by
  have ih0 := sip_Write.mono_l k
  ·intro y0 y1 y2 y3 y4 y5
   unfold sip_Write.l0
   repeat' first
   | (with_reducible exact ih0 _ _ _ _ _ _)
   | (with_reducible exact sip_number.mono _ _)
   | (with_reducible exact LeO.refl _)
   | (with_reducible exact LeO.none _)
   | (with_reducible refine LeO.ite ?_ ?_)
   | (with_reducible refine LeO.bind ?_ (fun _ => ?_))
theorem sip_Write.mono : ∀ a0 a1 a2 a3 a4 a5 a6 k, LeO (sip_Write.f k a0 a1 a2 a3 a4 a5 a6) (sip_Write.f (k + 1) a0 a1 a2 a3 a4 a5 a6) := by
 intro a0 a1 a2 a3 a4 a5 a6 k
 have ih0 := sip_Write.mono_l k
 unfold sip_Write.f
 repeat' first
   | (with_reducible exact ih0 _ _ _ _ _ _)
   | (with_reducible exact sip_number.mono _ _)
   | (with_reducible exact LeO.refl _)
   | (with_reducible exact LeO.none _)
   | (with_reducible refine LeO.ite ?_ ?_)
   | (with_reducible refine LeO.bind ?_ (fun _ => ?_))
def sip_Write.T6 : Bool × List (List Nat × List Nat) := (true, [([], []), ([0], [0]), ([], []), ([2], [2]), ([3], [3]), ([4], [4]), ([1, 5, 5], [1, 5]), ([0, 1, 2, 3, 4, 5, 6], []), ([7, 6, 6, 0, 1, 2, 3, 4, 5, 6], [6, 7])])
def sip_Write.B6 : List Nat := [0, 1, 0, 4, 12, 28, 63, 127, 255]
theorem sip_Write.tab6 : rtab .any (opsOf Try.f41 6) = sip_Write.T6 := by kernel_rfl
theorem sip_Write.bits6 : waitsOk sip_Write.T6.2 sip_Write.B6 = true := by kernel_rfl
set_option maxHeartbeats 8000000 in
set_option maxRecDepth 100000 in
theorem sip_Write.calls (k : Nat) (a0_0 : Int) (a0_1 : Int) (a0_2 : Int) (a0_3 : Int) (a0_4 : ByteArray) (a0_5 : Int) (a1 : ByteArray) (r1 : Int) (r2 : Int) (r3 : Int) (r4 : Int) (r5 : ByteArray) (r6 : Int) (w : World) (h : sip_Write.f k a0_0 a0_1 a0_2 a0_3 a0_4 a0_5 a1 = some (r1, r2, r3, r4, r5, r6)) :
  Calls Try.prog 41 #[.agg #[.int .u64 a0_0, .int .u64 a0_1, .int .u64 a0_2, .int .u64 a0_3, .string a0_4, .int .i64 a0_5], .string a1] w fun e w' => e = .returned (.agg #[.int .u64 r1, .int .u64 r2, .int .u64 r3, .int .u64 r4, .string r5, .int .i64 r6]) ∧ Below w.heap.size w w' := by
 have hu85 := Try.underlying85;have hu75 := Try.underlying75;have HB := am (Below.refl w.heap.size w);have H : ((sip_right.f a0_0 a0_1 a0_2 a0_3 a0_4 a0_5).bind fun t160 => (if t160 = true then (if a0_4.size + a1.size ≤ 9223372036854775807 then (sip_Write.l0 k a0_0 a0_1 a0_2 a0_3 (a0_4 ++ a1) (wrap64 (a0_5 + (a1.size : Int)))) else (none)) else (some (a0_0, a0_1, a0_2, a0_3, a0_4, a0_5)))) = some (r1, r2, r3, r4, r5, r6) := h;clear h;replace H := Option.bind_eq_some_iff.mp H;obtain ⟨t160, A30, H⟩ := H
 try dsimp only at H
 have A3 := am A30;clear A30
 by_cases c4 : t160 = true
 rotate_left
 ·replace c4 := Bool.eq_false_iff.mpr c4;subst c4
  have H1 : (some (a0_0, a0_1, a0_2, a0_3, a0_4, a0_5)) = some (r1, r2, r3, r4, r5, r6) := by rw [if_neg (show ¬ (false = true) by decide)] at H; exact H
  clear H;have H := H1;clear H1
  simp only [Option.some.injEq, Prod.mk.injEq] at H
  obtain ⟨rfl, rfl, rfl, rfl, rfl, rfl⟩ := H
  go_enter Try.func41, Try.ntmps41
  go_wp2_with (first | ((with_reducible refine gate_dst (N := 2) rfl ?_); refine be 2 #[.int .u64 a0_0, .int .u64 a0_1, .int .u64 a0_2, .int .u64 a0_3, .string a0_4, .int .i64 a0_5] 85 ?_; intro gb158 hg w30 hbox hb; have BK158 := am (hbox); have GW158 := am ((pg hg HB : w.heap.size ≤ gb158)); have GE158 := am ((pg hg HB : w.heap.size ≤ gb158)); replace HB := am (below_step (pb HB) hb); clear hb hbox hg) | ((with_reducible refine gate_dst (N := 4) rfl ?_); refine be 4 #[.int .u64 0, .int .u64 0, .int .u64 0, .int .u64 0, .string (⟨#[]⟩ : ByteArray), .int .i64 0] 85 ?_; intro gb159 hg w31 hbox hb; have BK159 := am (hbox); have GW159 := am ((pg hg HB : w.heap.size ≤ gb159)); have GE159 := am ((pg hg HB : w.heap.size ≤ gb159)); replace HB := am (below_step (pb HB) hb); obtain ⟨NB158_159, NB159_158, hnb32, hnc32⟩ := pm hg BK158; replace BK158 := am (blk_below (pk BK158.out) hb); clear hb hbox hg; obtain ⟨hcz33_0, hcz33_1, hcz33_2, hcz33_3, hcz33_4, hcz33_5, hfz33_0, hfz33_1, hfz33_2, hfz33_3, hfz33_4, hfz33_5⟩ := g6 BK158) | ((with_reducible refine gate_callee (f := 54) rfl ?_); refine gl (some 6) Try.func54 #[.agg #[.int .u64 a0_0, .int .u64 a0_1, .int .u64 a0_2, .int .u64 a0_3, .string a0_4, .int .i64 a0_5]] ?_; (with_reducible refine (sip_right.calls a0_0 a0_1 a0_2 a0_3 a0_4 a0_5 false _ A3.out).mono ?_); rintro e w34 ⟨rfl, hb⟩; refine ⟨_, rfl, ?_⟩; replace BK158 := am (blk_below (pk BK158.out) hb); replace BK159 := am (blk_below (pk BK159.out) hb); replace HB := am (below_step (pb HB) hb); (try clear hb); (try clear hb2); (try clear hk); (try clear hi); obtain ⟨hcz35_0, hcz35_1, hcz35_2, hcz35_3, hcz35_4, hcz35_5, hfz35_0, hfz35_1, hfz35_2, hfz35_3, hfz35_4, hfz35_5⟩ := g6 BK158; obtain ⟨hcz36_0, hcz36_1, hcz36_2, hcz36_3, hcz36_4, hcz36_5, hfz36_0, hfz36_1, hfz36_2, hfz36_3, hfz36_4, hfz36_5⟩ := g6 BK159))
  refine bodyPost_ret (results_cell_row rfl _ _ gb159 85 #[.int .u64 a0_0, .int .u64 a0_1, .int .u64 a0_2, .int .u64 a0_3, .string a0_4, .int .i64 a0_5] (0, 0) _ rfl (by refine pk ?_; refine blk_put (cs := #[.int .u64 a0_0, .int .u64 a0_1, .int .u64 a0_2, .int .u64 a0_3, .string a0_4, .int .i64 0]) ?_ 5 _ rfl; refine pk ?_; refine blk_put (cs := #[.int .u64 a0_0, .int .u64 a0_1, .int .u64 a0_2, .int .u64 a0_3, .string (⟨#[]⟩ : ByteArray), .int .i64 0]) ?_ 4 _ rfl; refine pk ?_; refine blk_put (cs := #[.int .u64 a0_0, .int .u64 a0_1, .int .u64 a0_2, .int .u64 0, .string (⟨#[]⟩ : ByteArray), .int .i64 0]) ?_ 3 _ rfl; refine pk ?_; refine blk_put (cs := #[.int .u64 a0_0, .int .u64 a0_1, .int .u64 0, .int .u64 0, .string (⟨#[]⟩ : ByteArray), .int .i64 0]) ?_ 2 _ rfl; refine pk ?_; refine blk_put (cs := #[.int .u64 a0_0, .int .u64 0, .int .u64 0, .int .u64 0, .string (⟨#[]⟩ : ByteArray), .int .i64 0]) ?_ 1 _ rfl; refine pk ?_; refine blk_put (cs := #[.int .u64 0, .int .u64 0, .int .u64 0, .int .u64 0, .string (⟨#[]⟩ : ByteArray), .int .i64 0]) ?_ 0 _ rfl; refine pk ?_; exact BK159.out) Try.underlying85 rfl (by kernel_rfl)) rfl ?_
  exact ⟨by first | rfl | (simp [errW_none, errW_some] <;> rfl) | (simp [*, errW_none, errW_some] <;> rfl), pb HB⟩
 subst c4
 have H1 : (if a0_4.size + a1.size ≤ 9223372036854775807 then (sip_Write.l0 k a0_0 a0_1 a0_2 a0_3 (a0_4 ++ a1) (wrap64 (a0_5 + (a1.size : Int)))) else (none)) = some (r1, r2, r3, r4, r5, r6) := by rw [if_pos rfl] at H; exact H
 clear H;have H := H1;clear H1
 by_cases c5 : a0_4.size + a1.size ≤ 9223372036854775807
 rotate_left
 ·rw [if_neg c5] at H;exact absurd H (by simp)
 rw [if_pos c5] at H;have c5b0 := eq_true c5;have c5b1 : decide (a0_4.size + a1.size ≤ 9223372036854775807) = true := decide_eq_true c5
 try have c5b2 : (9223372036854775807 < a0_4.size + a1.size) = False := eq_false (Nat.not_lt.2 c5)
 have H' := am H;clear H
 go_enter Try.func41, Try.ntmps41
 go_wp2_with (first | ((with_reducible refine gate_dst (N := 2) rfl ?_); refine be 2 #[.int .u64 a0_0, .int .u64 a0_1, .int .u64 a0_2, .int .u64 a0_3, .string a0_4, .int .i64 a0_5] 85 ?_; intro gb158 hg w6 hbox hb; have BK158 := am (hbox); have GW158 := am ((pg hg HB : w.heap.size ≤ gb158)); have GE158 := am ((pg hg HB : w.heap.size ≤ gb158)); replace HB := am (below_step (pb HB) hb); clear hb hbox hg) | ((with_reducible refine gate_dst (N := 4) rfl ?_); refine be 4 #[.int .u64 0, .int .u64 0, .int .u64 0, .int .u64 0, .string (⟨#[]⟩ : ByteArray), .int .i64 0] 85 ?_; intro gb159 hg w7 hbox hb; have BK159 := am (hbox); have GW159 := am ((pg hg HB : w.heap.size ≤ gb159)); have GE159 := am ((pg hg HB : w.heap.size ≤ gb159)); replace HB := am (below_step (pb HB) hb); obtain ⟨NB158_159, NB159_158, hnb8, hnc8⟩ := pm hg BK158; replace BK158 := am (blk_below (pk BK158.out) hb); clear hb hbox hg; obtain ⟨hcz9_0, hcz9_1, hcz9_2, hcz9_3, hcz9_4, hcz9_5, hfz9_0, hfz9_1, hfz9_2, hfz9_3, hfz9_4, hfz9_5⟩ := g6 BK158) | ((with_reducible refine gate_callee (f := 54) rfl ?_); refine gl (some 6) Try.func54 #[.agg #[.int .u64 a0_0, .int .u64 a0_1, .int .u64 a0_2, .int .u64 a0_3, .string a0_4, .int .i64 a0_5]] ?_; (with_reducible refine (sip_right.calls a0_0 a0_1 a0_2 a0_3 a0_4 a0_5 true _ A3.out).mono ?_); rintro e w10 ⟨rfl, hb⟩; refine ⟨_, rfl, ?_⟩; replace BK158 := am (blk_below (pk BK158.out) hb); replace BK159 := am (blk_below (pk BK159.out) hb); replace HB := am (below_step (pb HB) hb); (try clear hb); (try clear hb2); (try clear hk); (try clear hi); obtain ⟨hcz11_0, hcz11_1, hcz11_2, hcz11_3, hcz11_4, hcz11_5, hfz11_0, hfz11_1, hfz11_2, hfz11_3, hfz11_4, hfz11_5⟩ := g6 BK158))
 go_loopg [] k (fun kq w' => ∃ (x159000_1 : Int) (x159001_1 : Int) (x159002_1 : Int) (x159003_1 : Int) (x159004_1 : ByteArray), Aside0 (sip_Write.l0 kq x159000_1 x159001_1 x159002_1 x159003_1 x159004_1 (wrap64 (a0_5 + (a1.size : Int))) = some (r1, r2, r3, r4, r5, r6)) ∧ Aside0 (kq ≤ k) ∧ Aside0 (w'.heap[gb158]? = some (.cells #[.int .u64 x159000_1, .int .u64 x159001_1, .int .u64 x159002_1, .int .u64 x159003_1, .string x159004_1, .int .i64 (wrap64 (a0_5 + (a1.size : Int)))] 85 (0, 0))) ∧ Aside0 (w'.heap[gb159]? = some (.cells #[.int .u64 0, .int .u64 0, .int .u64 0, .int .u64 0, .string (⟨#[]⟩ : ByteArray), .int .i64 0] 85 (0, 0))) ∧ Aside0 (Below w.heap.size w w'))
 case atStart => exact ⟨(a0_0), (a0_1), (a0_2), (a0_3), (a0_4 ++ a1), H', ⟨Nat.le_refl _⟩, ⟨by refine pk ?_; refine blk_put (cs := #[.int .u64 a0_0, .int .u64 a0_1, .int .u64 a0_2, .int .u64 a0_3, .string a0_4, .int .i64 (wrap64 (a0_5 + (a1.size : Int)))]) ?_ 4 _ rfl; refine pk ?_; refine blk_put (cs := #[.int .u64 a0_0, .int .u64 a0_1, .int .u64 a0_2, .int .u64 a0_3, .string a0_4, .int .i64 a0_5]) ?_ 5 _ rfl; refine pk ?_; exact BK158.out⟩, ⟨by refine pk ?_; refine blk_far ?_ NB159_158.out _; refine pk ?_; refine blk_far ?_ NB159_158.out _; refine pk ?_; exact BK159.out⟩, ⟨pb HB⟩⟩
 case round =>
  clear H';(try clear p2);(try clear c4);(try clear c5);(try clear c5b0);(try clear c5b1);(try clear c5b2);(try clear p6);(try clear c8);(try clear hcz11_0 hcz11_1 hcz11_2 hcz11_3 hcz11_4 hcz11_5);(try clear hcz9_0 hcz9_1 hcz9_2 hcz9_3 hcz9_4 hcz9_5);(try clear hfz11_0 hfz11_1 hfz11_2 hfz11_3 hfz11_4 hfz11_5);(try clear hfz9_0 hfz9_1 hfz9_2 hfz9_3 hfz9_4 hfz9_5);obtain ⟨x159000_1, x159001_1, x159002_1, x159003_1, x159004_1, HA, HK1, BK158, BK159, HB⟩ := hrel
  cases gk with
  | zero => exact absurd HA.out (by simp [sip_Write.l0])
  | succ k1 =>
   have H := HA.out;clear HA
   simp only [sip_Write.l0] at H
   by_cases c12 : (x159004_1.size : Int) ≥ 8
   ·rw [if_pos c12] at H;have c12b0 : decide (8 ≤ (x159004_1.size : Int)) = true := decide_eq_true c12;have c12b1 : decide (8 ≤ x159004_1.size) = true := decide_eq_true (by omega);clear c12
    by_cases c13 : 0 ≤ 8
    ·rw [if_pos c13] at H;have c13b0 := eq_true c13;have c13b1 : decide (0 ≤ 8) = true := decide_eq_true c13;clear c13
     by_cases c14 : 8 ≤ (x159004_1.size : Int)
     ·rw [if_pos c14] at H;have c14b0 := eq_true c14;have c14b1 : decide (8 ≤ (x159004_1.size : Int)) = true := decide_eq_true c14;clear c14;replace H := Option.bind_eq_some_iff.mp H;obtain ⟨t161, A150, H⟩ := H
      try dsimp only at H
      have A15 := am A150;clear A150;replace H := Option.bind_eq_some_iff.mp H;obtain ⟨⟨t162, t163, t164, t165⟩, A160, H⟩ := H
      try dsimp only at H
      have A16 := am A160;clear A160;have c17b0 := eq_true (of_decide_eq_true (by first | (with_reducible assumption) | assumption) : 8 ≤ (x159004_1.size : Int));have H' := am H;clear H;have hnb18 := NB158_159.out;have hnc18 := NB159_158.out;obtain ⟨hcz19_0, hcz19_1, hcz19_2, hcz19_3, hcz19_4, hcz19_5, hfz19_0, hfz19_1, hfz19_2, hfz19_3, hfz19_4, hfz19_5⟩ := g6 BK158
      try go_wp2
      replace BK158 := am (blk_drew BK158.out);replace BK159 := am (blk_drew BK159.out);replace HB := am (below_drew1 HB.out)
      refine start_ (n := 9) (S := fun w' => w'.cell? ⟨gb158, 0, none⟩ = some (.int .u64 x159000_1) ∧ w'.cell? ⟨gb158, 1, none⟩ = some (.int .u64 x159001_1) ∧ w'.cell? ⟨gb158, 2, none⟩ = some (.int .u64 x159002_1) ∧ w'.cell? ⟨gb158, 3, none⟩ = some (.int .u64 x159003_1) ∧ w'.cell? ⟨gb158, 4, none⟩ = some (.string x159004_1) ∧ w'.cell? ⟨gb158, 5, none⟩ = some (.int .i64 (wrap64 (a0_5 + (a1.size : Int))))) (ds := [8]) #[false, false, false, false, false, false, false, false, false] (by kernel_rfl) rfl rfl ⟨ce BK158 0, ce BK158 1, ce BK158 2, ce BK158 3, ce BK158 4, ce BK158 5⟩ (fun hHeld => ?_); refine with_tabW sip_Write.tab6 sip_Write.bits6 (fun HT_ HW_ => ?_)
      generalize wr.drew = w20 at BK158 BK159 HB hHeld ⊢
      refine pu 0 ?_
      refine pu 2 ?_
      refine ta 1 hHeld ?_
      refine ta 3 hHeld ?_
      refine pu 4 ?_
      refine on1 5 (fun K hK => ?_)
      refine gs Try.func56 #[.string (x159004_1.extract 0 8)] ?_
      with_reducible refine (sip_number.calls k1 (x159004_1.extract 0 8) t161 _ A15.out).mono ?_
      rintro e w' ⟨rfl, ⟨nd, rfl⟩⟩
      refine ⟨_, rfl, ?_⟩
      refine hK.out _ _ ⟨ce BK158 0, ce BK158 1, ce BK158 2, ce BK158 3, ce BK158 4, ce BK158 5⟩ (fun hHeld => ?_)
      clear hK K
      refine nm ?_
      refine on1 6 (fun K hK => ?_)
      refine gs Try.func55 #[.agg #[.int .u64 x159000_1, .int .u64 x159001_1, .int .u64 x159002_1, .int .u64 x159003_1], .int .u64 t161] ?_
      with_reducible refine (sip_take.calls x159000_1 x159001_1 x159002_1 x159003_1 t161 t162 t163 t164 t165 _ A16.out).mono ?_
      rintro e w21 ⟨rfl, hb⟩
      refine ⟨_, rfl, ?_⟩
      replace BK158 := am (blk_below (pk BK158.out) hb);replace BK159 := am (blk_below (pk BK159.out) hb);replace HB := am (below_step (pb HB) hb)
      (try clear hb)
      (try clear hb2)
      (try clear hk)
      (try clear hi)
      refine hK.out _ _ ⟨ce BK158 0, ce BK158 1, ce BK158 2, ce BK158 3, ce BK158 4, ce BK158 5⟩ (fun hHeld => ?_)
      clear hK K
      refine nm ?_
      refine pu 7 ?_
      refine last_ (i := 8) (N := none) #[true, true, true, true, true, true, true, true, true] rfl rfl (one_of HT_.out (by kernel_rfl)) (by decide) (fun K hK => ?_)
      have hs22 : w21.cell? ⟨gb158, 0, none⟩ = some (.int .u64 x159000_1) := ce BK158 0;have hfs22 := blk_frozen BK158.out 0;have hns22_1 := NB159_158.out;have hms22_1 := NB158_159.out;have hs23 : w21.cell? ⟨gb158, 1, none⟩ = some (.int .u64 x159001_1) := ce BK158 1;have hfs23 := blk_frozen BK158.out 1;have hns23_1 := NB159_158.out;have hms23_1 := NB158_159.out;have hs24 : w21.cell? ⟨gb158, 2, none⟩ = some (.int .u64 x159002_1) := ce BK158 2;have hfs24 := blk_frozen BK158.out 2;have hns24_1 := NB159_158.out;have hms24_1 := NB158_159.out;have hs25 : w21.cell? ⟨gb158, 3, none⟩ = some (.int .u64 x159003_1) := ce BK158 3;have hfs25 := blk_frozen BK158.out 3;have hns25_1 := NB159_158.out;have hms25_1 := NB158_159.out
      refine skip_ (w1 := ?_) (by rfl) rfl ?_ ?_
      rotate_left
      ·go_simp
       rfl
      refine hK.out _ _ ?_
      clear hK K
      refine done_ (done_of HT_.out (by kernel_rfl)) ?_
      obtain ⟨hcz26_0, hcz26_1, hcz26_2, hcz26_3, hcz26_4, hcz26_5, hfz26_0, hfz26_1, hfz26_2, hfz26_3, hfz26_4, hfz26_5⟩ := g6 BK158
      try go_wp2
      go_roundg k1
      case measure => have := HK1.out; omega
      case rel => exact ⟨(t162), (t163), (t164), (t165), (x159004_1.extract 8 x159004_1.size), H', ⟨by have := HK1.out; omega⟩, ⟨by refine pk ?_; refine blk_put (cs := #[.int .u64 t162, .int .u64 t163, .int .u64 t164, .int .u64 t165, .string x159004_1, .int .i64 (wrap64 (a0_5 + (a1.size : Int)))]) ?_ 4 _ rfl; refine pk ?_; refine blk_put (cs := #[.int .u64 t162, .int .u64 t163, .int .u64 t164, .int .u64 x159003_1, .string x159004_1, .int .i64 (wrap64 (a0_5 + (a1.size : Int)))]) ?_ 3 _ rfl; refine pk ?_; refine blk_put (cs := #[.int .u64 t162, .int .u64 t163, .int .u64 x159002_1, .int .u64 x159003_1, .string x159004_1, .int .i64 (wrap64 (a0_5 + (a1.size : Int)))]) ?_ 2 _ rfl; refine pk ?_; refine blk_put (cs := #[.int .u64 t162, .int .u64 x159001_1, .int .u64 x159002_1, .int .u64 x159003_1, .string x159004_1, .int .i64 (wrap64 (a0_5 + (a1.size : Int)))]) ?_ 1 _ rfl; refine pk ?_; refine blk_put (cs := #[.int .u64 x159000_1, .int .u64 x159001_1, .int .u64 x159002_1, .int .u64 x159003_1, .string x159004_1, .int .i64 (wrap64 (a0_5 + (a1.size : Int)))]) ?_ 0 _ rfl; refine pk ?_; exact BK158.out⟩, ⟨by refine pk ?_; refine blk_far ?_ NB159_158.out _; refine pk ?_; refine blk_far ?_ NB159_158.out _; refine pk ?_; refine blk_far ?_ NB159_158.out _; refine pk ?_; refine blk_far ?_ NB159_158.out _; refine pk ?_; refine blk_far ?_ NB159_158.out _; refine pk ?_; exact BK159.out⟩, ⟨pb HB⟩⟩
     ·rw [if_neg c14] at H;exact absurd H (by simp)
    ·rw [if_neg c13] at H;exact absurd H (by simp)
   ·rw [if_neg c12] at H;have c12b0 : decide (8 ≤ (x159004_1.size : Int)) = false := decide_eq_false c12;have c12b1 : decide (8 ≤ x159004_1.size) = false := decide_eq_false (by omega);clear c12
    simp only [Option.some.injEq, Prod.mk.injEq] at H
    obtain ⟨rfl, rfl, rfl, rfl, rfl, rfl⟩ := H;have hnb27 := NB158_159.out;have hnc27 := NB159_158.out;obtain ⟨hcz28_0, hcz28_1, hcz28_2, hcz28_3, hcz28_4, hcz28_5, hfz28_0, hfz28_1, hfz28_2, hfz28_3, hfz28_4, hfz28_5⟩ := g6 BK158;obtain ⟨hcz29_0, hcz29_1, hcz29_2, hcz29_3, hcz29_4, hcz29_5, hfz29_0, hfz29_1, hfz29_2, hfz29_3, hfz29_4, hfz29_5⟩ := g6 BK159
    go_wp2
    refine bodyPost_ret (results_cell_row rfl _ _ gb159 85 #[.int .u64 x159000_1, .int .u64 x159001_1, .int .u64 x159002_1, .int .u64 x159003_1, .string x159004_1, .int .i64 (wrap64 (a0_5 + (a1.size : Int)))] (0, 0) _ rfl (by refine pk ?_; refine blk_put (cs := #[.int .u64 x159000_1, .int .u64 x159001_1, .int .u64 x159002_1, .int .u64 x159003_1, .string x159004_1, .int .i64 0]) ?_ 5 _ rfl; refine pk ?_; refine blk_put (cs := #[.int .u64 x159000_1, .int .u64 x159001_1, .int .u64 x159002_1, .int .u64 x159003_1, .string (⟨#[]⟩ : ByteArray), .int .i64 0]) ?_ 4 _ rfl; refine pk ?_; refine blk_put (cs := #[.int .u64 x159000_1, .int .u64 x159001_1, .int .u64 x159002_1, .int .u64 0, .string (⟨#[]⟩ : ByteArray), .int .i64 0]) ?_ 3 _ rfl; refine pk ?_; refine blk_put (cs := #[.int .u64 x159000_1, .int .u64 x159001_1, .int .u64 0, .int .u64 0, .string (⟨#[]⟩ : ByteArray), .int .i64 0]) ?_ 2 _ rfl; refine pk ?_; refine blk_put (cs := #[.int .u64 x159000_1, .int .u64 0, .int .u64 0, .int .u64 0, .string (⟨#[]⟩ : ByteArray), .int .i64 0]) ?_ 1 _ rfl; refine pk ?_; refine blk_put (cs := #[.int .u64 0, .int .u64 0, .int .u64 0, .int .u64 0, .string (⟨#[]⟩ : ByteArray), .int .i64 0]) ?_ 0 _ rfl; refine pk ?_; exact BK159.out) Try.underlying85 rfl (by kernel_rfl)) rfl ?_
    exact ⟨by first | rfl | (simp [errW_none, errW_some] <;> rfl) | (simp [*, errW_none, errW_some] <;> rfl), pb HB⟩
def sip_New.f (a0_0 : Int) (a0_1 : Int) : Option (Int × Int × Int × Int × ByteArray × Int) := some (Go.bits .xor .u64 a0_0 8317987319222330741, Go.bits .xor .u64 a0_1 7237128888997146477, Go.bits .xor .u64 a0_0 7816392313619706465, Go.bits .xor .u64 a0_1 8387220255154660723, (⟨#[]⟩ : ByteArray), 0)
set_option maxHeartbeats 8000000 in
set_option maxRecDepth 100000 in
theorem sip_New.calls (a0_0 : Int) (a0_1 : Int) (r1 : Int) (r2 : Int) (r3 : Int) (r4 : Int) (r5 : ByteArray) (r6 : Int) (w : World) (h : sip_New.f a0_0 a0_1 = some (r1, r2, r3, r4, r5, r6)) :
  Calls Try.prog 42 #[.agg #[.int .u64 a0_0, .int .u64 a0_1]] w fun e w' => e = .returned (.agg #[.int .u64 r1, .int .u64 r2, .int .u64 r3, .int .u64 r4, .string r5, .int .i64 r6]) ∧ Below w.heap.size w w' := by
 have hu24 := Try.underlying24;have hu85 := Try.underlying85;have hu75 := Try.underlying75;have HB := am (Below.refl w.heap.size w);have H : (some (Go.bits .xor .u64 a0_0 8317987319222330741, Go.bits .xor .u64 a0_1 7237128888997146477, Go.bits .xor .u64 a0_0 7816392313619706465, Go.bits .xor .u64 a0_1 8387220255154660723, (⟨#[]⟩ : ByteArray), 0)) = some (r1, r2, r3, r4, r5, r6) := h;clear h
 simp only [Option.some.injEq, Prod.mk.injEq] at H
 obtain ⟨rfl, rfl, rfl, rfl, rfl, rfl⟩ := H
 go_enter Try.func42, Try.ntmps42
 go_wp2_with (first | ((with_reducible refine gate_dst (N := 1) rfl ?_); refine be 1 #[.int .u64 a0_0, .int .u64 a0_1] 24 ?_; intro gb166 hg w2 hbox hb; have BK166 := am (hbox); have GW166 := am ((pg hg HB : w.heap.size ≤ gb166)); have GE166 := am ((pg hg HB : w.heap.size ≤ gb166)); replace HB := am (below_step (pb HB) hb); clear hb hbox hg) | ((with_reducible refine gate_dst (N := 2) rfl ?_); refine be 2 #[.int .u64 0, .int .u64 0, .int .u64 0, .int .u64 0, .string (⟨#[]⟩ : ByteArray), .int .i64 0] 85 ?_; intro gb167 hg w3 hbox hb; have BK167 := am (hbox); have GW167 := am ((pg hg HB : w.heap.size ≤ gb167)); have GE167 := am ((pg hg HB : w.heap.size ≤ gb167)); replace HB := am (below_step (pb HB) hb); obtain ⟨NB166_167, NB167_166, hnb4, hnc4⟩ := pm hg BK166; replace BK166 := am (blk_below (pk BK166.out) hb); clear hb hbox hg; obtain ⟨hcz5_0, hcz5_1, hfz5_0, hfz5_1⟩ := g2 BK166; obtain ⟨hcz6_0, hcz6_1, hcz6_2, hcz6_3, hcz6_4, hcz6_5, hfz6_0, hfz6_1, hfz6_2, hfz6_3, hfz6_4, hfz6_5⟩ := g6 BK167))
 refine bodyPost_ret (results_cell_row rfl _ _ gb167 85 #[.int .u64 (Go.bits .xor .u64 a0_0 8317987319222330741), .int .u64 (Go.bits .xor .u64 a0_1 7237128888997146477), .int .u64 (Go.bits .xor .u64 a0_0 7816392313619706465), .int .u64 (Go.bits .xor .u64 a0_1 8387220255154660723), .string (⟨#[]⟩ : ByteArray), .int .i64 0] (0, 0) _ rfl (by refine pk ?_; refine blk_put (cs := #[.int .u64 (Go.bits .xor .u64 a0_0 8317987319222330741), .int .u64 (Go.bits .xor .u64 a0_1 7237128888997146477), .int .u64 (Go.bits .xor .u64 a0_0 7816392313619706465), .int .u64 (Go.bits .xor .u64 a0_1 8387220255154660723), .string (⟨#[]⟩ : ByteArray), .int .i64 0]) ?_ 5 _ rfl; refine pk ?_; refine blk_put (cs := #[.int .u64 (Go.bits .xor .u64 a0_0 8317987319222330741), .int .u64 (Go.bits .xor .u64 a0_1 7237128888997146477), .int .u64 (Go.bits .xor .u64 a0_0 7816392313619706465), .int .u64 (Go.bits .xor .u64 a0_1 8387220255154660723), .string (⟨#[]⟩ : ByteArray), .int .i64 0]) ?_ 4 _ rfl; refine pk ?_; refine blk_put (cs := #[.int .u64 (Go.bits .xor .u64 a0_0 8317987319222330741), .int .u64 (Go.bits .xor .u64 a0_1 7237128888997146477), .int .u64 (Go.bits .xor .u64 a0_0 7816392313619706465), .int .u64 0, .string (⟨#[]⟩ : ByteArray), .int .i64 0]) ?_ 3 _ rfl; refine pk ?_; refine blk_put (cs := #[.int .u64 (Go.bits .xor .u64 a0_0 8317987319222330741), .int .u64 (Go.bits .xor .u64 a0_1 7237128888997146477), .int .u64 0, .int .u64 0, .string (⟨#[]⟩ : ByteArray), .int .i64 0]) ?_ 2 _ rfl; refine pk ?_; refine blk_put (cs := #[.int .u64 (Go.bits .xor .u64 a0_0 8317987319222330741), .int .u64 0, .int .u64 0, .int .u64 0, .string (⟨#[]⟩ : ByteArray), .int .i64 0]) ?_ 1 _ rfl; refine pk ?_; refine blk_put (cs := #[.int .u64 0, .int .u64 0, .int .u64 0, .int .u64 0, .string (⟨#[]⟩ : ByteArray), .int .i64 0]) ?_ 0 _ rfl; refine pk ?_; exact BK167.out) Try.underlying85 rfl (by kernel_rfl)) rfl ?_
 exact ⟨by first | rfl | (simp [errW_none, errW_some] <;> rfl) | (simp [*, errW_none, errW_some] <;> rfl), pb HB⟩

end Go.Proofs.Ytmfffbafldbihaa.H
