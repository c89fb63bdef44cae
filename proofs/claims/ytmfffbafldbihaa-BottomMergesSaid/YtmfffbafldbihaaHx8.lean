import Derived.Test.YtmfffbafldbihaaHx0
import Derived.Test.YtmfffbafldbihaaHx7
namespace Go.Proofs.Ytmfffbafldbihaa.H
open Go.RowKit Go.Proofs.YtmfffbafldbihaaW.PrintWords Go.Proofs.YtmfffbafldbihaaW.PrintLast Go.Proofs.YtmfffbafldbihaaW.PrintMore Go.Proofs.YtmfffbafldbihaaW.Sq
attribute [local go_sem] max2_int min2_int max_two min_two max_three min_three max_four min_four
set_option linter.unusedVariables false
set_option linter.unusedSimpArgs false

def sip_Done.l0 : Nat → Int → Int → Int → Int → Int → Option (Int)
 | 0, _, _, _, _, _ => none
 | k + 1, x22, x154000, x154001, x154002, x154003 => if x22 < 4 then ((sip_turn.f x154000 x154001 x154002 x154003).bind fun bt154 => (sip_Done.l0 k (wrap64 (x22 + 1)) bt154.1 bt154.2.1 bt154.2.2.1 bt154.2.2.2)) else (some (Go.bits .xor .u64 (Go.bits .xor .u64 (Go.bits .xor .u64 x154000 x154001) x154002) x154003))
def sip_Done.f (k : Nat) (a0_0 : Int) (a0_1 : Int) (a0_2 : Int) (a0_3 : Int) (a0_4 : ByteArray) (a0_5 : Int) : Option (Int) := (sip_right.f a0_0 a0_1 a0_2 a0_3 a0_4 a0_5).bind fun t147 => (if t147 = true then ((sip_number.f k a0_4).bind fun t148 => ((sip_take.f a0_0 a0_1 a0_2 a0_3 (Go.bits .or .u64 t148 (IntKind.u64.wrap ((IntKind.u64.wrap (a0_5)) * 72057594037927936)))).bind fun bt149 => (sip_Done.l0 k 0 bt149.1 bt149.2.1 (Go.bits .xor .u64 bt149.2.2.1 255) bt149.2.2.2))) else (some 0))
theorem sip_Done.mono_l : ∀ k, (∀ y0 y1 y2 y3 y4, LeO (sip_Done.l0 k y0 y1 y2 y3 y4) (sip_Done.l0 (k + 1) y0 y1 y2 y3 y4))
 | 0 => fun _ _ _ _ _ r h => by simp [sip_Done.l0] at h
 | k + 1 => by
  have ih0 := sip_Done.mono_l k
  ·intro y0 y1 y2 y3 y4
   unfold sip_Done.l0
   repeat' first
   | (with_reducible exact ih0 _ _ _ _ _)
   | (with_reducible exact sip_number.mono _ _)
   | (with_reducible exact LeO.refl _)
   | (with_reducible exact LeO.none _)
   | (with_reducible refine LeO.ite ?_ ?_)
   | (with_reducible refine LeO.bind ?_ (fun _ => ?_))
theorem sip_Done.mono : ∀ a0 a1 a2 a3 a4 a5 k, LeO (sip_Done.f k a0 a1 a2 a3 a4 a5) (sip_Done.f (k + 1) a0 a1 a2 a3 a4 a5) := by
 intro a0 a1 a2 a3 a4 a5 k
 have ih0 := sip_Done.mono_l k
 unfold sip_Done.f
 repeat' first
   | (with_reducible exact ih0 _ _ _ _ _)
   | (with_reducible exact sip_number.mono _ _)
   | (with_reducible exact LeO.refl _)
   | (with_reducible exact LeO.none _)
   | (with_reducible refine LeO.ite ?_ ?_)
   | (with_reducible refine LeO.bind ?_ (fun _ => ?_))
def sip_Done.T3 : Bool × List (List Nat × List Nat) := (true, [([], []), ([0], [0]), ([], []), ([2], [2]), ([3], [3]), ([], []), ([5], [5]), ([6], [6]), ([7], [7]), ([4, 8], [4, 8]), ([1, 9, 4], [1, 9]), ([], []), ([11, 10, 10, 0, 1, 2, 3, 4, 5, 6, 7, 8, 9, 10, 11], [10, 11])])
def sip_Done.B3 : List Nat := [0, 1, 0, 4, 12, 0, 32, 96, 224, 508, 1023, 0, 4095]
theorem sip_Done.tab3 : rtab .any (opsOf Try.f40 3) = sip_Done.T3 := by kernel_rfl
theorem sip_Done.bits3 : waitsOk sip_Done.T3.2 sip_Done.B3 = true := by kernel_rfl
set_option maxHeartbeats 8000000 in
set_option maxRecDepth 100000 in
theorem sip_Done.calls (k : Nat) (a0_0 : Int) (a0_1 : Int) (a0_2 : Int) (a0_3 : Int) (a0_4 : ByteArray) (a0_5 : Int) (r : Int) (w : World) (h : sip_Done.f k a0_0 a0_1 a0_2 a0_3 a0_4 a0_5 = some r) :
  Calls Try.prog 40 #[.agg #[.int .u64 a0_0, .int .u64 a0_1, .int .u64 a0_2, .int .u64 a0_3, .string a0_4, .int .i64 a0_5]] w fun e w' => e = .returned (.int .u64 r) ∧ Below w.heap.size w w' := by
 have hu85 := Try.underlying85
 have hu75 := Try.underlying75
 have HB := am (Below.refl w.heap.size w)
 have H : ((sip_right.f a0_0 a0_1 a0_2 a0_3 a0_4 a0_5).bind fun t147 => (if t147 = true then ((sip_number.f k a0_4).bind fun t148 => ((sip_take.f a0_0 a0_1 a0_2 a0_3 (Go.bits .or .u64 t148 (IntKind.u64.wrap ((IntKind.u64.wrap (a0_5)) * 72057594037927936)))).bind fun bt149 => (sip_Done.l0 k 0 bt149.1 bt149.2.1 (Go.bits .xor .u64 bt149.2.2.1 255) bt149.2.2.2))) else (some 0))) = some r := h
 clear h
 replace H := Option.bind_eq_some_iff.mp H
 obtain ⟨t147, A20, H⟩ := H
 try dsimp only at H
 have A2 := am A20
 clear A20
 by_cases c3 : t147 = true
 rotate_left
 ·replace c3 := Bool.eq_false_iff.mpr c3
  subst c3
  have H1 : (some 0) = some r := by rw [if_neg (show ¬ (false = true) by decide)] at H; exact H
  clear H
  have H := H1
  clear H1
  obtain rfl := Option.some.inj H
  go_enter Try.func40, Try.ntmps40
  go_wp2_with (first | ((with_reducible refine gate_dst (N := 1) rfl ?_); refine be 1 #[.int .u64 a0_0, .int .u64 a0_1, .int .u64 a0_2, .int .u64 a0_3, .string a0_4, .int .i64 a0_5] 85 ?_; intro gb146 hg w27 hbox hb; have n0_ := am (below_step (pb HB) hb); have n1_ := am (hbox); have n2_ := am ((pg hg HB : w.heap.size ≤ gb146)); have n3_ := am ((pg hg HB : w.heap.size ≤ gb146)); clear HB; have HB := n0_; have BK146 := n1_; have GW146 := n2_; have GE146 := n3_; clear n0_ n1_ n2_ n3_; clear hb hbox hg; have hcz28_0 := ce BK146 0; have hcz28_1 := ce BK146 1; have hcz28_2 := ce BK146 2; have hcz28_3 := ce BK146 3; have hcz28_4 := ce BK146 4; have hcz28_5 := ce BK146 5; have hfz28_0 := fz BK146 0; have hfz28_1 := fz BK146 1; have hfz28_2 := fz BK146 2; have hfz28_3 := fz BK146 3; have hfz28_4 := fz BK146 4; have hfz28_5 := fz BK146 5) | ((with_reducible refine gate_callee (f := 54) rfl ?_); refine gl (some 5) Try.func54 #[.agg #[.int .u64 a0_0, .int .u64 a0_1, .int .u64 a0_2, .int .u64 a0_3, .string a0_4, .int .i64 a0_5]] ?_; (with_reducible refine (sip_right.calls a0_0 a0_1 a0_2 a0_3 a0_4 a0_5 false _ A2.out).mono ?_); rintro e w29 ⟨rfl, hb⟩; refine ⟨_, rfl, ?_⟩; replace BK146 := am (blk_below (pk BK146.out) hb); replace HB := am (below_step (pb HB) hb); (try clear hb); (try clear hb2); (try clear hk); (try clear hi)))
  go_ret
  exact ⟨by first | rfl | (simp [errW_none, errW_some] <;> rfl) | (simp [*, errW_none, errW_some] <;> rfl), pb HB⟩
 subst c3
 have H1 : ((sip_number.f k a0_4).bind fun t148 => ((sip_take.f a0_0 a0_1 a0_2 a0_3 (Go.bits .or .u64 t148 (IntKind.u64.wrap ((IntKind.u64.wrap (a0_5)) * 72057594037927936)))).bind fun bt149 => (sip_Done.l0 k 0 bt149.1 bt149.2.1 (Go.bits .xor .u64 bt149.2.2.1 255) bt149.2.2.2))) = some r := by rw [if_pos rfl] at H; exact H
 clear H
 have H := H1
 clear H1
 replace H := Option.bind_eq_some_iff.mp H
 obtain ⟨t148, A40, H⟩ := H
 try dsimp only at H
 have A4 := am A40
 clear A40
 replace H := Option.bind_eq_some_iff.mp H
 obtain ⟨⟨t149, t150, t151, t152⟩, A50, H⟩ := H
 try dsimp only at H
 have A5 := am A50
 clear A50
 have H' := am H
 clear H
 go_enter Try.func40, Try.ntmps40
 try go_wp2_with (first | ((with_reducible refine gate_dst (N := 1) rfl ?_); refine be 1 #[.int .u64 a0_0, .int .u64 a0_1, .int .u64 a0_2, .int .u64 a0_3, .string a0_4, .int .i64 a0_5] 85 ?_; intro gb146 hg w6 hbox hb; have n0_ := am (below_step (pb HB) hb); have n1_ := am (hbox); have n2_ := am ((pg hg HB : w.heap.size ≤ gb146)); have n3_ := am ((pg hg HB : w.heap.size ≤ gb146)); clear HB; have HB := n0_; have BK146 := n1_; have GW146 := n2_; have GE146 := n3_; clear n0_ n1_ n2_ n3_; clear hb hbox hg; have hcz7_0 := ce BK146 0; have hcz7_1 := ce BK146 1; have hcz7_2 := ce BK146 2; have hcz7_3 := ce BK146 3; have hcz7_4 := ce BK146 4; have hcz7_5 := ce BK146 5; have hfz7_0 := fz BK146 0; have hfz7_1 := fz BK146 1; have hfz7_2 := fz BK146 2; have hfz7_3 := fz BK146 3; have hfz7_4 := fz BK146 4; have hfz7_5 := fz BK146 5) | ((with_reducible refine gate_callee (f := 54) rfl ?_); refine gl (some 5) Try.func54 #[.agg #[.int .u64 a0_0, .int .u64 a0_1, .int .u64 a0_2, .int .u64 a0_3, .string a0_4, .int .i64 a0_5]] ?_; (with_reducible refine (sip_right.calls a0_0 a0_1 a0_2 a0_3 a0_4 a0_5 true _ A2.out).mono ?_); rintro e w8 ⟨rfl, hb⟩; refine ⟨_, rfl, ?_⟩; replace BK146 := am (blk_below (pk BK146.out) hb); replace HB := am (below_step (pb HB) hb); (try clear hb); (try clear hb2); (try clear hk); (try clear hi)))
 replace BK146 := am (blk_drew BK146.out)
 replace HB := am (below_drew1 HB.out)
 refine start_ (n := 13) (S := fun w' => w'.cell? ⟨gb146, 0, none⟩ = some (.int .u64 a0_0) ∧ w'.cell? ⟨gb146, 1, none⟩ = some (.int .u64 a0_1) ∧ w'.cell? ⟨gb146, 2, none⟩ = some (.int .u64 a0_2) ∧ w'.cell? ⟨gb146, 3, none⟩ = some (.int .u64 a0_3) ∧ w'.cell? ⟨gb146, 4, none⟩ = some (.string a0_4) ∧ w'.cell? ⟨gb146, 5, none⟩ = some (.int .i64 a0_5)) (ds := []) #[false, false, false, false, false, false, false, false, false, false, false, false, false] (by kernel_rfl) rfl rfl ⟨ce BK146 0, ce BK146 1, ce BK146 2, ce BK146 3, ce BK146 4, ce BK146 5⟩ (fun hHeld => ?_); refine with_tabW sip_Done.tab3 sip_Done.bits3 (fun HT_ HW_ => ?_)
 generalize w8.drew = w9 at BK146 HB hHeld ⊢
 refine pu 0 ?_
 refine pu 2 ?_
 refine pu 5 ?_
 refine ta 1 hHeld ?_
 refine ta 3 hHeld ?_
 refine ta 6 hHeld ?_
 refine pu 7 ?_
 refine pu 8 ?_
 refine join_ (σ := Nat) 1 #[true, true, true, true, true, true, true, true, true, true, true, true, false] (fun s_ => [(11, .int .u64 t148), (17, .agg #[.int .u64 t149, .int .u64 t150, .int .u64 t151, .int .u64 t152]), (3, .pointer (some ⟨s_, 0, none⟩)), (16, .int .u64 (Go.bits .or .u64 t148 (IntKind.u64.wrap ((IntKind.u64.wrap (a0_5)) * 72057594037927936))))]) (fun s_ w' => (w'.cell? ⟨gb146, 0, none⟩ = some (.int .u64 a0_0) ∧ w'.cell? ⟨gb146, 1, none⟩ = some (.int .u64 a0_1) ∧ w'.cell? ⟨gb146, 2, none⟩ = some (.int .u64 a0_2) ∧ w'.cell? ⟨gb146, 3, none⟩ = some (.int .u64 a0_3) ∧ w'.cell? ⟨gb146, 4, none⟩ = some (.string a0_4) ∧ w'.cell? ⟨gb146, 5, none⟩ = some (.int .i64 a0_5)) ∧ (w'.heap[gb146]? = some (.cells #[.int .u64 a0_0, .int .u64 a0_1, .int .u64 a0_2, .int .u64 a0_3, .string a0_4, .int .i64 a0_5] 85 (0, 0))) ∧ (w'.heap[s_]? = some (.cells #[.int .u64 0, .int .u64 0, .int .u64 0, .int .u64 0] 75 (0, 0))) ∧ (w.heap.size ≤ s_) ∧ (w.heap.size ≤ s_) ∧ (gb146 ≠ s_) ∧ (s_ ≠ gb146) ∧ (Below w.heap.size w w')) ?_ ?_
 ·rintro gb153 w12 ⟨hS_, h0_, h1_, h2_, h3_, h4_, h5_, h6_⟩
  replace BK146 : Aside0 (w12.heap[gb146]? = some (.cells #[.int .u64 a0_0, .int .u64 a0_1, .int .u64 a0_2, .int .u64 a0_3, .string a0_4, .int .i64 a0_5] 85 (0, 0))) := ⟨h0_⟩
  have BK153 : Aside0 (w12.heap[gb153]? = some (.cells #[.int .u64 0, .int .u64 0, .int .u64 0, .int .u64 0] 75 (0, 0))) := ⟨h1_⟩
  have GW153 : Aside0 (w.heap.size ≤ gb153) := ⟨h2_⟩
  have GE153 : Aside0 (w.heap.size ≤ gb153) := ⟨h3_⟩
  have NB146_153 : Aside0 (gb146 ≠ gb153) := ⟨h4_⟩
  have NB153_146 : Aside0 (gb153 ≠ gb146) := ⟨h5_⟩
  replace HB : Aside0 (Below w.heap.size w w12) := ⟨h6_⟩
  clear h0_ h1_ h2_ h3_ h4_ h5_ h6_
  have hHeld : w12.cell? ⟨gb146, 0, none⟩ = some (.int .u64 a0_0) ∧ w12.cell? ⟨gb146, 1, none⟩ = some (.int .u64 a0_1) ∧ w12.cell? ⟨gb146, 2, none⟩ = some (.int .u64 a0_2) ∧ w12.cell? ⟨gb146, 3, none⟩ = some (.int .u64 a0_3) ∧ w12.cell? ⟨gb146, 4, none⟩ = some (.string a0_4) ∧ w12.cell? ⟨gb146, 5, none⟩ = some (.int .i64 a0_5) := hS_
  refine norm_ (a' := ?_) ?_ ?_
  rotate_left
  ·simp only [putAll, Act.put, List.setIfInBounds_toArray, List.set_cons_zero, List.set_cons_succ]
   rfl
  refine one_ (i := 12) (N := none) #[true, true, true, true, true, true, true, true, true, true, true, true, true] rfl rfl (one_of HT_.out (by kernel_rfl)) (by decide) (fun K hK => ?_)
  have hs13 : w12.cell? ⟨gb153, 0, none⟩ = some (.int .u64 0) := ce BK153 0
  have hfs13 := blk_frozen BK153.out 0
  have hns13_0 := NB146_153.out
  have hms13_0 := NB153_146.out
  have hs14 : w12.cell? ⟨gb153, 1, none⟩ = some (.int .u64 0) := ce BK153 1
  have hfs14 := blk_frozen BK153.out 1
  have hns14_0 := NB146_153.out
  have hms14_0 := NB153_146.out
  have hs15 : w12.cell? ⟨gb153, 2, none⟩ = some (.int .u64 0) := ce BK153 2
  have hfs15 := blk_frozen BK153.out 2
  have hns15_0 := NB146_153.out
  have hms15_0 := NB153_146.out
  have hs16 : w12.cell? ⟨gb153, 3, none⟩ = some (.int .u64 0) := ce BK153 3
  have hfs16 := blk_frozen BK153.out 3
  have hns16_0 := NB146_153.out
  have hms16_0 := NB153_146.out
  refine skip_ (w1 := ?_) (by rfl) rfl ?_ ?_
  rotate_left
  ·go_simp
   rfl
  refine hK.out _ _ ⟨((cell_far (p := ⟨gb153, _, none⟩) NB146_153.out _).trans (((cell_far (p := ⟨gb153, _, none⟩) NB146_153.out _).trans (((cell_far (p := ⟨gb153, _, none⟩) NB146_153.out _).trans (((cell_far (p := ⟨gb153, _, none⟩) NB146_153.out _).trans (hHeld.1)))))))), ((cell_far (p := ⟨gb153, _, none⟩) NB146_153.out _).trans (((cell_far (p := ⟨gb153, _, none⟩) NB146_153.out _).trans (((cell_far (p := ⟨gb153, _, none⟩) NB146_153.out _).trans (((cell_far (p := ⟨gb153, _, none⟩) NB146_153.out _).trans (hHeld.2.1)))))))), ((cell_far (p := ⟨gb153, _, none⟩) NB146_153.out _).trans (((cell_far (p := ⟨gb153, _, none⟩) NB146_153.out _).trans (((cell_far (p := ⟨gb153, _, none⟩) NB146_153.out _).trans (((cell_far (p := ⟨gb153, _, none⟩) NB146_153.out _).trans (hHeld.2.2.1)))))))), ((cell_far (p := ⟨gb153, _, none⟩) NB146_153.out _).trans (((cell_far (p := ⟨gb153, _, none⟩) NB146_153.out _).trans (((cell_far (p := ⟨gb153, _, none⟩) NB146_153.out _).trans (((cell_far (p := ⟨gb153, _, none⟩) NB146_153.out _).trans (hHeld.2.2.2.1)))))))), ((cell_far (p := ⟨gb153, _, none⟩) NB146_153.out _).trans (((cell_far (p := ⟨gb153, _, none⟩) NB146_153.out _).trans (((cell_far (p := ⟨gb153, _, none⟩) NB146_153.out _).trans (((cell_far (p := ⟨gb153, _, none⟩) NB146_153.out _).trans (hHeld.2.2.2.2.1)))))))), ((cell_far (p := ⟨gb153, _, none⟩) NB146_153.out _).trans (((cell_far (p := ⟨gb153, _, none⟩) NB146_153.out _).trans (((cell_far (p := ⟨gb153, _, none⟩) NB146_153.out _).trans (((cell_far (p := ⟨gb153, _, none⟩) NB146_153.out _).trans (hHeld.2.2.2.2.2))))))))⟩ (fun hHeld => ?_)
  clear hK K
  refine done_ (done_of HT_.out (by kernel_rfl)) ?_
  have hnb17 := NB153_146.out
  have hnc17 := NB146_153.out
  have hcz18_0 := ce BK153 0
  have hcz18_1 := ce BK153 1
  have hcz18_2 := ce BK153 2
  have hcz18_3 := ce BK153 3
  have hfz18_0 := fz BK153 0
  have hfz18_1 := fz BK153 1
  have hfz18_2 := fz BK153 2
  have hfz18_3 := fz BK153 3
  try go_wp2
  go_loopg [22] k (fun kq v22 w' => ∃ (x22_1 : Int) (x154000_1 : Int) (x154001_1 : Int) (x154002_1 : Int) (x154003_1 : Int), v22 = .int .i64 x22_1 ∧ Aside0 (sip_Done.l0 kq x22_1 x154000_1 x154001_1 x154002_1 x154003_1 = some r) ∧ Aside0 (kq ≤ k) ∧ Aside0 (w'.heap[gb146]? = some (.cells #[.int .u64 a0_0, .int .u64 a0_1, .int .u64 a0_2, .int .u64 a0_3, .string a0_4, .int .i64 a0_5] 85 (0, 0))) ∧ Aside0 (w'.heap[gb153]? = some (.cells #[.int .u64 x154000_1, .int .u64 x154001_1, .int .u64 x154002_1, .int .u64 x154003_1] 75 (0, 0))) ∧ Aside0 (Below w.heap.size w w'))
  case atStart => exact ⟨(0), (t149), (t150), (Go.bits .xor .u64 t151 255), (t152), (by first | rfl | (simp; done) | (simp [*]; done)), H', ⟨Nat.le_refl _⟩, ⟨by refine pk ?_; refine blk_far ?_ NB146_153.out _; refine pk ?_; refine blk_far ?_ NB146_153.out _; refine pk ?_; refine blk_far ?_ NB146_153.out _; refine pk ?_; refine blk_far ?_ NB146_153.out _; refine pk ?_; refine blk_far ?_ NB146_153.out _; refine pk ?_; exact BK146.out⟩, ⟨by refine pk ?_; refine blk_put (cs := #[.int .u64 t149, .int .u64 t150, .int .u64 t151, .int .u64 t152]) ?_ 2 _ rfl; refine pk ?_; refine blk_put (cs := #[.int .u64 t149, .int .u64 t150, .int .u64 t151, .int .u64 0]) ?_ 3 _ rfl; refine pk ?_; refine blk_put (cs := #[.int .u64 t149, .int .u64 t150, .int .u64 0, .int .u64 0]) ?_ 2 _ rfl; refine pk ?_; refine blk_put (cs := #[.int .u64 t149, .int .u64 0, .int .u64 0, .int .u64 0]) ?_ 1 _ rfl; refine pk ?_; refine blk_put (cs := #[.int .u64 0, .int .u64 0, .int .u64 0, .int .u64 0]) ?_ 0 _ rfl; refine pk ?_; exact BK153.out⟩, ⟨pb HB⟩⟩
  case round =>
   clear H'
   try clear c1
   try clear p2
   try clear c3
   try clear c4
   try clear c5
   try clear c17
   try clear hcz18_0 hcz18_1 hcz18_2 hcz18_3
   try clear hcz7_0 hcz7_1 hcz7_2 hcz7_3 hcz7_4 hcz7_5
   try clear hfz18_0 hfz18_1 hfz18_2 hfz18_3
   try clear hfz7_0 hfz7_1 hfz7_2 hfz7_3 hfz7_4 hfz7_5
   obtain ⟨x22_1, x154000_1, x154001_1, x154002_1, x154003_1, rfl, HA, HK1, BK146, BK153, HB⟩ := hrel
   cases gk with
   | zero => exact absurd HA.out (by simp [sip_Done.l0])
   | succ k1 =>
    have H := HA.out
    clear HA
    simp only [sip_Done.l0] at H
    by_cases c19 : x22_1 < 4
    ·rw [if_pos c19] at H
     have c19b0 : decide (x22_1 < 4) = true := decide_eq_true c19
     clear c19
     replace H := Option.bind_eq_some_iff.mp H
     obtain ⟨⟨t154, t155, t156, t157⟩, A200, H⟩ := H
     try dsimp only at H
     have A20 := am A200
     clear A200
     have H' := am H
     clear H
     have hnb21 := NB153_146.out
     have hnc21 := NB146_153.out
     have hcz22_0 := ce BK153 0
     have hcz22_1 := ce BK153 1
     have hcz22_2 := ce BK153 2
     have hcz22_3 := ce BK153 3
     have hfz22_0 := fz BK153 0
     have hfz22_1 := fz BK153 1
     have hfz22_2 := fz BK153 2
     have hfz22_3 := fz BK153 3
     go_wp2_with (first | ((with_reducible refine gate_callee (f := 57) rfl ?_); refine gl (some 25) Try.func57 #[.agg #[.int .u64 x154000_1, .int .u64 x154001_1, .int .u64 x154002_1, .int .u64 x154003_1]] ?_; (with_reducible refine (sip_turn.calls x154000_1 x154001_1 x154002_1 x154003_1 t154 t155 t156 t157 _ A20.out).mono ?_); rintro e w23 ⟨rfl, hb⟩; refine ⟨_, rfl, ?_⟩; replace BK146 := am (blk_below (pk BK146.out) hb); replace BK153 := am (blk_below (pk BK153.out) hb); replace HB := am (below_step (pb HB) hb); (try clear hb); (try clear hb2); (try clear hk); (try clear hi); have hcz24_0 := ce BK153 0; have hcz24_1 := ce BK153 1; have hcz24_2 := ce BK153 2; have hcz24_3 := ce BK153 3; have hfz24_0 := fz BK153 0; have hfz24_1 := fz BK153 1; have hfz24_2 := fz BK153 2; have hfz24_3 := fz BK153 3))
     go_roundg k1
     case measure => have := HK1.out; omega
     case rel => exact ⟨(wrap64 (x22_1 + 1)), (t154), (t155), (t156), (t157), (by first | rfl | (simp; done) | (simp [*]; done)), H', ⟨by have := HK1.out; omega⟩, ⟨by refine pk ?_; refine blk_far ?_ NB146_153.out _; refine pk ?_; refine blk_far ?_ NB146_153.out _; refine pk ?_; refine blk_far ?_ NB146_153.out _; refine pk ?_; refine blk_far ?_ NB146_153.out _; refine pk ?_; exact BK146.out⟩, ⟨by refine pk ?_; refine blk_put (cs := #[.int .u64 t154, .int .u64 t155, .int .u64 t156, .int .u64 x154003_1]) ?_ 3 _ rfl; refine pk ?_; refine blk_put (cs := #[.int .u64 t154, .int .u64 t155, .int .u64 x154002_1, .int .u64 x154003_1]) ?_ 2 _ rfl; refine pk ?_; refine blk_put (cs := #[.int .u64 t154, .int .u64 x154001_1, .int .u64 x154002_1, .int .u64 x154003_1]) ?_ 1 _ rfl; refine pk ?_; refine blk_put (cs := #[.int .u64 x154000_1, .int .u64 x154001_1, .int .u64 x154002_1, .int .u64 x154003_1]) ?_ 0 _ rfl; refine pk ?_; exact BK153.out⟩, ⟨pb HB⟩⟩
    ·rw [if_neg c19] at H
     have c19b0 : decide (x22_1 < 4) = false := decide_eq_false c19
     clear c19
     obtain rfl := Option.some.inj H
     have hnb25 := NB153_146.out
     have hnc25 := NB146_153.out
     have hcz26_0 := ce BK153 0
     have hcz26_1 := ce BK153 1
     have hcz26_2 := ce BK153 2
     have hcz26_3 := ce BK153 3
     have hfz26_0 := fz BK153 0
     have hfz26_1 := fz BK153 1
     have hfz26_2 := fz BK153 2
     have hfz26_3 := fz BK153 3
     go_wp2
     go_ret
     exact ⟨by first | rfl | (simp [errW_none, errW_some] <;> rfl) | (simp [*, errW_none, errW_some] <;> rfl), pb HB⟩
 intro hCont
 refine two_ (i := 4) (j := 11) (Ni := some 11) (Nj := some 3) #[true, true, true, true, true, true, true, true, true, false, false, false, false] #[true, true, true, true, false, true, true, true, true, false, false, true, false] rfl rfl rfl rfl (two_of HT_.out (by kernel_rfl)) (by decide) (by decide) (fun K hK => ?_) (fun K hK => ?_)
 rotate_left
 ·skip
  refine bx 3 #[.int .u64 0, .int .u64 0, .int .u64 0, .int .u64 0] 75 ?_
  intro gb153 hg w10 hbox hb
  have n0_ := am (blk_below (pk BK146.out) hb)
  have n1_ := am (below_step (pb HB) hb)
  have n2_ := am (hbox)
  have n3_ := am ((pg hg HB : w.heap.size ≤ gb153))
  have n4_ := am ((pg hg HB : w.heap.size ≤ gb153))
  have n5_ := am ((pl hg (pk BK146.out) : gb146 ≠ gb153))
  have n6_ := am ((pl' hg (pk BK146.out) : gb153 ≠ gb146))
  clear BK146 HB
  have BK146 := n0_
  have HB := n1_
  have BK153 := n2_
  have GW153 := n3_
  have GE153 := n4_
  have NB146_153 := n5_
  have NB153_146 := n6_
  clear n0_ n1_ n2_ n3_ n4_ n5_ n6_ hb hbox hg
  refine hK.out _ _ ⟨ce BK146 0, ce BK146 1, ce BK146 2, ce BK146 3, ce BK146 4, ce BK146 5⟩ (fun hHeld => ?_)
  clear hK K
  refine nm ?_
  refine on1 4 (fun K hK => ?_)
  refine gs Try.func56 #[.string a0_4] ?_
  with_reducible refine (sip_number.calls k a0_4 t148 _ A4.out).mono ?_
  rintro e w' ⟨rfl, ⟨nd, rfl⟩⟩
  refine ⟨_, rfl, ?_⟩
  refine hK.out _ _ ⟨ce BK146 0, ce BK146 1, ce BK146 2, ce BK146 3, ce BK146 4, ce BK146 5⟩ (fun hHeld => ?_)
  clear hK K
  refine nm ?_
  refine pu 9 ?_
  refine on1 10 (fun K hK => ?_)
  refine gs Try.func55 #[.agg #[.int .u64 a0_0, .int .u64 a0_1, .int .u64 a0_2, .int .u64 a0_3], .int .u64 (Go.bits .or .u64 t148 (IntKind.u64.wrap ((IntKind.u64.wrap (a0_5)) * 72057594037927936)))] ?_
  with_reducible refine (sip_take.calls a0_0 a0_1 a0_2 a0_3 (Go.bits .or .u64 t148 (IntKind.u64.wrap ((IntKind.u64.wrap (a0_5)) * 72057594037927936))) t149 t150 t151 t152 _ A5.out).mono ?_
  rintro e w11 ⟨rfl, hb⟩
  refine ⟨_, rfl, ?_⟩
  replace BK146 := am (blk_below (pk BK146.out) hb)
  replace BK153 := am (blk_below (pk BK153.out) hb)
  replace HB := am (below_step (pb HB) hb)
  (try clear hb)
  (try clear hb2)
  (try clear hk)
  (try clear hi)
  refine hK.out _ _ ⟨ce BK146 0, ce BK146 1, ce BK146 2, ce BK146 3, ce BK146 4, ce BK146 5⟩ (fun hHeld => ?_)
  clear hK K
  refine nm ?_
  exact nj (hCont (gb153) _ ⟨hHeld, (pk BK146.out), (pk BK153.out), GW153.out, GE153.out, NB146_153.out, NB153_146.out, (pb HB)⟩)
 skip
 refine gs Try.func56 #[.string a0_4] ?_
 with_reducible refine (sip_number.calls k a0_4 t148 _ A4.out).mono ?_
 rintro e w' ⟨rfl, ⟨nd, rfl⟩⟩
 refine ⟨_, rfl, ?_⟩
 refine hK.out _ _ ⟨ce BK146 0, ce BK146 1, ce BK146 2, ce BK146 3, ce BK146 4, ce BK146 5⟩ (fun hHeld => ?_)
 clear hK K
 refine nm ?_
 refine pu 9 ?_
 refine two_ (i := 10) (j := 11) (Ni := some 17) (Nj := some 3) #[true, true, true, true, true, true, true, true, true, true, true, false, false] #[true, true, true, true, true, true, true, true, true, true, false, true, false] rfl rfl rfl rfl (two_of HT_.out (by kernel_rfl)) (by decide) (by decide) (fun K hK => ?_) (fun K hK => ?_)
 ·skip
  refine gs Try.func55 #[.agg #[.int .u64 a0_0, .int .u64 a0_1, .int .u64 a0_2, .int .u64 a0_3], .int .u64 (Go.bits .or .u64 t148 (IntKind.u64.wrap ((IntKind.u64.wrap (a0_5)) * 72057594037927936)))] ?_
  with_reducible refine (sip_take.calls a0_0 a0_1 a0_2 a0_3 (Go.bits .or .u64 t148 (IntKind.u64.wrap ((IntKind.u64.wrap (a0_5)) * 72057594037927936))) t149 t150 t151 t152 _ A5.out).mono ?_
  rintro e w10 ⟨rfl, hb⟩
  refine ⟨_, rfl, ?_⟩
  replace BK146 := am (blk_below (pk BK146.out) hb)
  replace HB := am (below_step (pb HB) hb)
  (try clear hb)
  (try clear hb2)
  (try clear hk)
  (try clear hi)
  refine hK.out _ _ ⟨ce BK146 0, ce BK146 1, ce BK146 2, ce BK146 3, ce BK146 4, ce BK146 5⟩ (fun hHeld => ?_)
  clear hK K
  refine nm ?_
  refine on1 11 (fun K hK => ?_)
  refine bx 3 #[.int .u64 0, .int .u64 0, .int .u64 0, .int .u64 0] 75 ?_
  intro gb153 hg w11 hbox hb
  have n0_ := am (blk_below (pk BK146.out) hb)
  have n1_ := am (below_step (pb HB) hb)
  have n2_ := am (hbox)
  have n3_ := am ((pg hg HB : w.heap.size ≤ gb153))
  have n4_ := am ((pg hg HB : w.heap.size ≤ gb153))
  have n5_ := am ((pl hg (pk BK146.out) : gb146 ≠ gb153))
  have n6_ := am ((pl' hg (pk BK146.out) : gb153 ≠ gb146))
  clear BK146 HB
  have BK146 := n0_
  have HB := n1_
  have BK153 := n2_
  have GW153 := n3_
  have GE153 := n4_
  have NB146_153 := n5_
  have NB153_146 := n6_
  clear n0_ n1_ n2_ n3_ n4_ n5_ n6_ hb hbox hg
  refine hK.out _ _ ⟨ce BK146 0, ce BK146 1, ce BK146 2, ce BK146 3, ce BK146 4, ce BK146 5⟩ (fun hHeld => ?_)
  clear hK K
  refine nm ?_
  exact nj (hCont (gb153) _ ⟨hHeld, (pk BK146.out), (pk BK153.out), GW153.out, GE153.out, NB146_153.out, NB153_146.out, (pb HB)⟩)
 skip
 refine bx 3 #[.int .u64 0, .int .u64 0, .int .u64 0, .int .u64 0] 75 ?_
 intro gb153 hg w10 hbox hb
 have n0_ := am (blk_below (pk BK146.out) hb)
 have n1_ := am (below_step (pb HB) hb)
 have n2_ := am (hbox)
 have n3_ := am ((pg hg HB : w.heap.size ≤ gb153))
 have n4_ := am ((pg hg HB : w.heap.size ≤ gb153))
 have n5_ := am ((pl hg (pk BK146.out) : gb146 ≠ gb153))
 have n6_ := am ((pl' hg (pk BK146.out) : gb153 ≠ gb146))
 clear BK146 HB
 have BK146 := n0_
 have HB := n1_
 have BK153 := n2_
 have GW153 := n3_
 have GE153 := n4_
 have NB146_153 := n5_
 have NB153_146 := n6_
 clear n0_ n1_ n2_ n3_ n4_ n5_ n6_ hb hbox hg
 refine hK.out _ _ ⟨ce BK146 0, ce BK146 1, ce BK146 2, ce BK146 3, ce BK146 4, ce BK146 5⟩ (fun hHeld => ?_)
 clear hK K
 refine nm ?_
 refine on1 10 (fun K hK => ?_)
 refine gs Try.func55 #[.agg #[.int .u64 a0_0, .int .u64 a0_1, .int .u64 a0_2, .int .u64 a0_3], .int .u64 (Go.bits .or .u64 t148 (IntKind.u64.wrap ((IntKind.u64.wrap (a0_5)) * 72057594037927936)))] ?_
 with_reducible refine (sip_take.calls a0_0 a0_1 a0_2 a0_3 (Go.bits .or .u64 t148 (IntKind.u64.wrap ((IntKind.u64.wrap (a0_5)) * 72057594037927936))) t149 t150 t151 t152 _ A5.out).mono ?_
 rintro e w11 ⟨rfl, hb⟩
 refine ⟨_, rfl, ?_⟩
 replace BK146 := am (blk_below (pk BK146.out) hb)
 replace BK153 := am (blk_below (pk BK153.out) hb)
 replace HB := am (below_step (pb HB) hb)
 (try clear hb)
 (try clear hb2)
 (try clear hk)
 (try clear hi)
 refine hK.out _ _ ⟨ce BK146 0, ce BK146 1, ce BK146 2, ce BK146 3, ce BK146 4, ce BK146 5⟩ (fun hHeld => ?_)
 clear hK K
 refine nm ?_
 exact nj (hCont (gb153) _ ⟨hHeld, (pk BK146.out), (pk BK153.out), GW153.out, GE153.out, NB146_153.out, NB153_146.out, (pb HB)⟩)
def sip_Write.l0 : Nat → Int → Int → Int → Int → ByteArray → Int → Option (Int × Int × Int × Int × ByteArray × Int)
 | 0, _, _, _, _, _, _ => none
 | k + 1, x159000, x159001, x159002, x159003, x159004, x159005 => if (x159004.size : Int) ≥ 8 then (if 0 ≤ 8 then (if 8 ≤ (x159004.size : Int) then ((sip_number.f k (x159004.extract 0 8)).bind fun t161 => ((sip_take.f x159000 x159001 x159002 x159003 t161).bind fun bt162 => (sip_Write.l0 k bt162.1 bt162.2.1 bt162.2.2.1 bt162.2.2.2 (x159004.extract 8 x159004.size) x159005))) else (none)) else (none)) else (some (x159000, x159001, x159002, x159003, x159004, x159005))
def sip_Write.f (k : Nat) (a0_0 : Int) (a0_1 : Int) (a0_2 : Int) (a0_3 : Int) (a0_4 : ByteArray) (a0_5 : Int) (a1 : ByteArray) : Option (Int × Int × Int × Int × ByteArray × Int) := (sip_right.f a0_0 a0_1 a0_2 a0_3 a0_4 a0_5).bind fun t160 => (if t160 = true then (if a0_4.size + a1.size ≤ 9223372036854775807 then (sip_Write.l0 k a0_0 a0_1 a0_2 a0_3 (a0_4 ++ a1) (wrap64 (a0_5 + (a1.size : Int)))) else (none)) else (some (a0_0, a0_1, a0_2, a0_3, a0_4, a0_5)))
theorem sip_Write.mono_l : ∀ k, (∀ y0 y1 y2 y3 y4 y5, LeO (sip_Write.l0 k y0 y1 y2 y3 y4 y5) (sip_Write.l0 (k + 1) y0 y1 y2 y3 y4 y5))
 | 0 => fun _ _ _ _ _ _ r h => by simp [sip_Write.l0] at h
 | k + 1 => by
  have ih0 := sip_Write.mono_l k
  ·intro y0 y1 y2 y3 y4 y5
   unfold sip_Write.l0
   repeat' first
   | (with_reducible exact ih0 _ _ _ _ _ _)
   | (with_reducible exact sip_number.mono _ _)
   | (with_reducible exact LeO.refl _)
   | (with_reducible exact LeO.none _)
   | (with_reducible refine LeO.ite ?_ ?_)
   | (with_reducible refine LeO.bind ?_ (fun _ => ?_))
theorem sip_Write.mono : ∀ a0 a1 a2 a3 a4 a5 a6 k, LeO (sip_Write.f k a0 a1 a2 a3 a4 a5 a6) (sip_Write.f (k + 1) a0 a1 a2 a3 a4 a5 a6) := by
 intro a0 a1 a2 a3 a4 a5 a6 k
 have ih0 := sip_Write.mono_l k
 unfold sip_Write.f
 repeat' first
   | (with_reducible exact ih0 _ _ _ _ _ _)
   | (with_reducible exact sip_number.mono _ _)
   | (with_reducible exact LeO.refl _)
   | (with_reducible exact LeO.none _)
   | (with_reducible refine LeO.ite ?_ ?_)
   | (with_reducible refine LeO.bind ?_ (fun _ => ?_))
def sip_Write.T6 : Bool × List (List Nat × List Nat) := (true, [([], []), ([0], [0]), ([], []), ([2], [2]), ([3], [3]), ([4], [4]), ([1, 5, 5], [1, 5]), ([0, 1, 2, 3, 4, 5, 6], []), ([7, 6, 6, 0, 1, 2, 3, 4, 5, 6], [6, 7])])
def sip_Write.B6 : List Nat := [0, 1, 0, 4, 12, 28, 63, 127, 255]
theorem sip_Write.tab6 : rtab .any (opsOf Try.f41 6) = sip_Write.T6 := by kernel_rfl
theorem sip_Write.bits6 : waitsOk sip_Write.T6.2 sip_Write.B6 = true := by kernel_rfl
set_option maxHeartbeats 8000000 in
set_option maxRecDepth 100000 in
theorem sip_Write.calls (k : Nat) (a0_0 : Int) (a0_1 : Int) (a0_2 : Int) (a0_3 : Int) (a0_4 : ByteArray) (a0_5 : Int) (a1 : ByteArray) (r1 : Int) (r2 : Int) (r3 : Int) (r4 : Int) (r5 : ByteArray) (r6 : Int) (w : World) (h : sip_Write.f k a0_0 a0_1 a0_2 a0_3 a0_4 a0_5 a1 = some (r1, r2, r3, r4, r5, r6)) :
  Calls Try.prog 41 #[.agg #[.int .u64 a0_0, .int .u64 a0_1, .int .u64 a0_2, .int .u64 a0_3, .string a0_4, .int .i64 a0_5], .string a1] w fun e w' => e = .returned (.agg #[.int .u64 r1, .int .u64 r2, .int .u64 r3, .int .u64 r4, .string r5, .int .i64 r6]) ∧ Below w.heap.size w w' := by
 have hu85 := Try.underlying85
 have hu75 := Try.underlying75
 have HB := am (Below.refl w.heap.size w)
 have H : ((sip_right.f a0_0 a0_1 a0_2 a0_3 a0_4 a0_5).bind fun t160 => (if t160 = true then (if a0_4.size + a1.size ≤ 9223372036854775807 then (sip_Write.l0 k a0_0 a0_1 a0_2 a0_3 (a0_4 ++ a1) (wrap64 (a0_5 + (a1.size : Int)))) else (none)) else (some (a0_0, a0_1, a0_2, a0_3, a0_4, a0_5)))) = some (r1, r2, r3, r4, r5, r6) := h
 clear h
 replace H := Option.bind_eq_some_iff.mp H
 obtain ⟨t160, A30, H⟩ := H
 try dsimp only at H
 have A3 := am A30
 clear A30
 by_cases c4 : t160 = true
 rotate_left
 ·replace c4 := Bool.eq_false_iff.mpr c4
  subst c4
  have H1 : (some (a0_0, a0_1, a0_2, a0_3, a0_4, a0_5)) = some (r1, r2, r3, r4, r5, r6) := by rw [if_neg (show ¬ (false = true) by decide)] at H; exact H
  clear H
  have H := H1
  clear H1
  simp only [Option.some.injEq, Prod.mk.injEq] at H
  obtain ⟨rfl, rfl, rfl, rfl, rfl, rfl⟩ := H
  go_enter Try.func41, Try.ntmps41
  go_wp2_with (first | ((with_reducible refine gate_dst (N := 2) rfl ?_); refine be 2 #[.int .u64 a0_0, .int .u64 a0_1, .int .u64 a0_2, .int .u64 a0_3, .string a0_4, .int .i64 a0_5] 85 ?_; intro gb158 hg w30 hbox hb; have n0_ := am (below_step (pb HB) hb); have n1_ := am (hbox); have n2_ := am ((pg hg HB : w.heap.size ≤ gb158)); have n3_ := am ((pg hg HB : w.heap.size ≤ gb158)); clear HB; have HB := n0_; have BK158 := n1_; have GW158 := n2_; have GE158 := n3_; clear n0_ n1_ n2_ n3_; clear hb hbox hg) | ((with_reducible refine gate_dst (N := 4) rfl ?_); refine be 4 #[.int .u64 0, .int .u64 0, .int .u64 0, .int .u64 0, .string (⟨#[]⟩ : ByteArray), .int .i64 0] 85 ?_; intro gb159 hg w31 hbox hb; have n0_ := am (blk_below (pk BK158.out) hb); have n1_ := am (below_step (pb HB) hb); have n2_ := am (hbox); have n3_ := am ((pg hg HB : w.heap.size ≤ gb159)); have n4_ := am ((pg hg HB : w.heap.size ≤ gb159)); have n5_ := am ((pl hg (pk BK158.out) : gb158 ≠ gb159)); have n6_ := am ((pl' hg (pk BK158.out) : gb159 ≠ gb158)); clear BK158; clear HB; have BK158 := n0_; have HB := n1_; have BK159 := n2_; have GW159 := n3_; have GE159 := n4_; have NB158_159 := n5_; have NB159_158 := n6_; clear n0_ n1_ n2_ n3_ n4_ n5_ n6_; clear hb hbox hg; have hnb32 := NB158_159.out; have hnc32 := NB159_158.out; have hcz33_0 := ce BK158 0; have hcz33_1 := ce BK158 1; have hcz33_2 := ce BK158 2; have hcz33_3 := ce BK158 3; have hcz33_4 := ce BK158 4; have hcz33_5 := ce BK158 5; have hfz33_0 := fz BK158 0; have hfz33_1 := fz BK158 1; have hfz33_2 := fz BK158 2; have hfz33_3 := fz BK158 3; have hfz33_4 := fz BK158 4; have hfz33_5 := fz BK158 5) | ((with_reducible refine gate_callee (f := 54) rfl ?_); refine gl (some 6) Try.func54 #[.agg #[.int .u64 a0_0, .int .u64 a0_1, .int .u64 a0_2, .int .u64 a0_3, .string a0_4, .int .i64 a0_5]] ?_; (with_reducible refine (sip_right.calls a0_0 a0_1 a0_2 a0_3 a0_4 a0_5 false _ A3.out).mono ?_); rintro e w34 ⟨rfl, hb⟩; refine ⟨_, rfl, ?_⟩; replace BK158 := am (blk_below (pk BK158.out) hb); replace BK159 := am (blk_below (pk BK159.out) hb); replace HB := am (below_step (pb HB) hb); (try clear hb); (try clear hb2); (try clear hk); (try clear hi); have hcz35_0 := ce BK158 0; have hcz35_1 := ce BK158 1; have hcz35_2 := ce BK158 2; have hcz35_3 := ce BK158 3; have hcz35_4 := ce BK158 4; have hcz35_5 := ce BK158 5; have hfz35_0 := fz BK158 0; have hfz35_1 := fz BK158 1; have hfz35_2 := fz BK158 2; have hfz35_3 := fz BK158 3; have hfz35_4 := fz BK158 4; have hfz35_5 := fz BK158 5; have hcz36_0 := ce BK159 0; have hcz36_1 := ce BK159 1; have hcz36_2 := ce BK159 2; have hcz36_3 := ce BK159 3; have hcz36_4 := ce BK159 4; have hcz36_5 := ce BK159 5; have hfz36_0 := fz BK159 0; have hfz36_1 := fz BK159 1; have hfz36_2 := fz BK159 2; have hfz36_3 := fz BK159 3; have hfz36_4 := fz BK159 4; have hfz36_5 := fz BK159 5))
  refine bodyPost_ret (results_cell_row rfl _ _ gb159 85 #[.int .u64 a0_0, .int .u64 a0_1, .int .u64 a0_2, .int .u64 a0_3, .string a0_4, .int .i64 a0_5] (0, 0) _ rfl (by refine pk ?_; refine blk_put (cs := #[.int .u64 a0_0, .int .u64 a0_1, .int .u64 a0_2, .int .u64 a0_3, .string a0_4, .int .i64 0]) ?_ 5 _ rfl; refine pk ?_; refine blk_put (cs := #[.int .u64 a0_0, .int .u64 a0_1, .int .u64 a0_2, .int .u64 a0_3, .string (⟨#[]⟩ : ByteArray), .int .i64 0]) ?_ 4 _ rfl; refine pk ?_; refine blk_put (cs := #[.int .u64 a0_0, .int .u64 a0_1, .int .u64 a0_2, .int .u64 0, .string (⟨#[]⟩ : ByteArray), .int .i64 0]) ?_ 3 _ rfl; refine pk ?_; refine blk_put (cs := #[.int .u64 a0_0, .int .u64 a0_1, .int .u64 0, .int .u64 0, .string (⟨#[]⟩ : ByteArray), .int .i64 0]) ?_ 2 _ rfl; refine pk ?_; refine blk_put (cs := #[.int .u64 a0_0, .int .u64 0, .int .u64 0, .int .u64 0, .string (⟨#[]⟩ : ByteArray), .int .i64 0]) ?_ 1 _ rfl; refine pk ?_; refine blk_put (cs := #[.int .u64 0, .int .u64 0, .int .u64 0, .int .u64 0, .string (⟨#[]⟩ : ByteArray), .int .i64 0]) ?_ 0 _ rfl; refine pk ?_; exact BK159.out) Try.underlying85 rfl (by kernel_rfl)) rfl ?_
  exact ⟨by first | rfl | (simp [errW_none, errW_some] <;> rfl) | (simp [*, errW_none, errW_some] <;> rfl), pb HB⟩
 subst c4
 have H1 : (if a0_4.size + a1.size ≤ 9223372036854775807 then (sip_Write.l0 k a0_0 a0_1 a0_2 a0_3 (a0_4 ++ a1) (wrap64 (a0_5 + (a1.size : Int)))) else (none)) = some (r1, r2, r3, r4, r5, r6) := by rw [if_pos rfl] at H; exact H
 clear H
 have H := H1
 clear H1
 by_cases c5 : a0_4.size + a1.size ≤ 9223372036854775807
 rotate_left
 ·rw [if_neg c5] at H
  exact absurd H (by simp)
 rw [if_pos c5] at H
 have c5b0 := eq_true c5
 have c5b1 : decide (a0_4.size + a1.size ≤ 9223372036854775807) = true := decide_eq_true c5
 try have c5b2 : (9223372036854775807 < a0_4.size + a1.size) = False := eq_false (Nat.not_lt.2 c5)
 have H' := am H
 clear H
 go_enter Try.func41, Try.ntmps41
 go_wp2_with (first | ((with_reducible refine gate_dst (N := 2) rfl ?_); refine be 2 #[.int .u64 a0_0, .int .u64 a0_1, .int .u64 a0_2, .int .u64 a0_3, .string a0_4, .int .i64 a0_5] 85 ?_; intro gb158 hg w6 hbox hb; have n0_ := am (below_step (pb HB) hb); have n1_ := am (hbox); have n2_ := am ((pg hg HB : w.heap.size ≤ gb158)); have n3_ := am ((pg hg HB : w.heap.size ≤ gb158)); clear HB; have HB := n0_; have BK158 := n1_; have GW158 := n2_; have GE158 := n3_; clear n0_ n1_ n2_ n3_; clear hb hbox hg) | ((with_reducible refine gate_dst (N := 4) rfl ?_); refine be 4 #[.int .u64 0, .int .u64 0, .int .u64 0, .int .u64 0, .string (⟨#[]⟩ : ByteArray), .int .i64 0] 85 ?_; intro gb159 hg w7 hbox hb; have n0_ := am (blk_below (pk BK158.out) hb); have n1_ := am (below_step (pb HB) hb); have n2_ := am (hbox); have n3_ := am ((pg hg HB : w.heap.size ≤ gb159)); have n4_ := am ((pg hg HB : w.heap.size ≤ gb159)); have n5_ := am ((pl hg (pk BK158.out) : gb158 ≠ gb159)); have n6_ := am ((pl' hg (pk BK158.out) : gb159 ≠ gb158)); clear BK158; clear HB; have BK158 := n0_; have HB := n1_; have BK159 := n2_; have GW159 := n3_; have GE159 := n4_; have NB158_159 := n5_; have NB159_158 := n6_; clear n0_ n1_ n2_ n3_ n4_ n5_ n6_; clear hb hbox hg; have hnb8 := NB158_159.out; have hnc8 := NB159_158.out; have hcz9_0 := ce BK158 0; have hcz9_1 := ce BK158 1; have hcz9_2 := ce BK158 2; have hcz9_3 := ce BK158 3; have hcz9_4 := ce BK158 4; have hcz9_5 := ce BK158 5; have hfz9_0 := fz BK158 0; have hfz9_1 := fz BK158 1; have hfz9_2 := fz BK158 2; have hfz9_3 := fz BK158 3; have hfz9_4 := fz BK158 4; have hfz9_5 := fz BK158 5) | ((with_reducible refine gate_callee (f := 54) rfl ?_); refine gl (some 6) Try.func54 #[.agg #[.int .u64 a0_0, .int .u64 a0_1, .int .u64 a0_2, .int .u64 a0_3, .string a0_4, .int .i64 a0_5]] ?_; (with_reducible refine (sip_right.calls a0_0 a0_1 a0_2 a0_3 a0_4 a0_5 true _ A3.out).mono ?_); rintro e w10 ⟨rfl, hb⟩; refine ⟨_, rfl, ?_⟩; replace BK158 := am (blk_below (pk BK158.out) hb); replace BK159 := am (blk_below (pk BK159.out) hb); replace HB := am (below_step (pb HB) hb); (try clear hb); (try clear hb2); (try clear hk); (try clear hi); have hcz11_0 := ce BK158 0; have hcz11_1 := ce BK158 1; have hcz11_2 := ce BK158 2; have hcz11_3 := ce BK158 3; have hcz11_4 := ce BK158 4; have hcz11_5 := ce BK158 5; have hfz11_0 := fz BK158 0; have hfz11_1 := fz BK158 1; have hfz11_2 := fz BK158 2; have hfz11_3 := fz BK158 3; have hfz11_4 := fz BK158 4; have hfz11_5 := fz BK158 5))
 go_loopg [] k (fun kq w' => ∃ (x159000_1 : Int) (x159001_1 : Int) (x159002_1 : Int) (x159003_1 : Int) (x159004_1 : ByteArray), Aside0 (sip_Write.l0 kq x159000_1 x159001_1 x159002_1 x159003_1 x159004_1 (wrap64 (a0_5 + (a1.size : Int))) = some (r1, r2, r3, r4, r5, r6)) ∧ Aside0 (kq ≤ k) ∧ Aside0 (w'.heap[gb158]? = some (.cells #[.int .u64 x159000_1, .int .u64 x159001_1, .int .u64 x159002_1, .int .u64 x159003_1, .string x159004_1, .int .i64 (wrap64 (a0_5 + (a1.size : Int)))] 85 (0, 0))) ∧ Aside0 (w'.heap[gb159]? = some (.cells #[.int .u64 0, .int .u64 0, .int .u64 0, .int .u64 0, .string (⟨#[]⟩ : ByteArray), .int .i64 0] 85 (0, 0))) ∧ Aside0 (Below w.heap.size w w'))
 case atStart => exact ⟨(a0_0), (a0_1), (a0_2), (a0_3), (a0_4 ++ a1), H', ⟨Nat.le_refl _⟩, ⟨by refine pk ?_; refine blk_put (cs := #[.int .u64 a0_0, .int .u64 a0_1, .int .u64 a0_2, .int .u64 a0_3, .string a0_4, .int .i64 (wrap64 (a0_5 + (a1.size : Int)))]) ?_ 4 _ rfl; refine pk ?_; refine blk_put (cs := #[.int .u64 a0_0, .int .u64 a0_1, .int .u64 a0_2, .int .u64 a0_3, .string a0_4, .int .i64 a0_5]) ?_ 5 _ rfl; refine pk ?_; exact BK158.out⟩, ⟨by refine pk ?_; refine blk_far ?_ NB159_158.out _; refine pk ?_; refine blk_far ?_ NB159_158.out _; refine pk ?_; exact BK159.out⟩, ⟨pb HB⟩⟩
 case round =>
  clear H'
  try clear p2
  try clear c4
  try clear c5
  try clear c5b0
  try clear c5b1
  try clear c5b2
  try clear p6
  try clear c8
  try clear hcz11_0 hcz11_1 hcz11_2 hcz11_3 hcz11_4 hcz11_5
  try clear hcz9_0 hcz9_1 hcz9_2 hcz9_3 hcz9_4 hcz9_5
  try clear hfz11_0 hfz11_1 hfz11_2 hfz11_3 hfz11_4 hfz11_5
  try clear hfz9_0 hfz9_1 hfz9_2 hfz9_3 hfz9_4 hfz9_5
  obtain ⟨x159000_1, x159001_1, x159002_1, x159003_1, x159004_1, HA, HK1, BK158, BK159, HB⟩ := hrel
  cases gk with
  | zero => exact absurd HA.out (by simp [sip_Write.l0])
  | succ k1 =>
   have H := HA.out
   clear HA
   simp only [sip_Write.l0] at H
   by_cases c12 : (x159004_1.size : Int) ≥ 8
   ·rw [if_pos c12] at H
    have c12b0 : decide (8 ≤ (x159004_1.size : Int)) = true := decide_eq_true c12
    have c12b1 : decide (8 ≤ x159004_1.size) = true := decide_eq_true (by omega)
    clear c12
    by_cases c13 : 0 ≤ 8
    ·rw [if_pos c13] at H
     have c13b0 := eq_true c13
     have c13b1 : decide (0 ≤ 8) = true := decide_eq_true c13
     clear c13
     by_cases c14 : 8 ≤ (x159004_1.size : Int)
     ·rw [if_pos c14] at H
      have c14b0 := eq_true c14
      have c14b1 : decide (8 ≤ (x159004_1.size : Int)) = true := decide_eq_true c14
      clear c14
      replace H := Option.bind_eq_some_iff.mp H
      obtain ⟨t161, A150, H⟩ := H
      try dsimp only at H
      have A15 := am A150
      clear A150
      replace H := Option.bind_eq_some_iff.mp H
      obtain ⟨⟨t162, t163, t164, t165⟩, A160, H⟩ := H
      try dsimp only at H
      have A16 := am A160
      clear A160
      have c17b0 := eq_true (of_decide_eq_true (by first | (with_reducible assumption) | assumption) : 8 ≤ (x159004_1.size : Int))
      have H' := am H
      clear H
      have hnb18 := NB158_159.out
      have hnc18 := NB159_158.out
      have hcz19_0 := ce BK158 0
      have hcz19_1 := ce BK158 1
      have hcz19_2 := ce BK158 2
      have hcz19_3 := ce BK158 3
      have hcz19_4 := ce BK158 4
      have hcz19_5 : wr.cell? ⟨gb158, 5, none⟩ = some (.int .i64 (wrap64 (a0_5 + (a1.size : Int)))) := ce BK158 5
      have hfz19_0 := fz BK158 0
      have hfz19_1 := fz BK158 1
      have hfz19_2 := fz BK158 2
      have hfz19_3 := fz BK158 3
      have hfz19_4 := fz BK158 4
      have hfz19_5 := fz BK158 5
      try go_wp2
      replace BK158 := am (blk_drew BK158.out)
      replace BK159 := am (blk_drew BK159.out)
      replace HB := am (below_drew1 HB.out)
      refine start_ (n := 9) (S := fun w' => w'.cell? ⟨gb158, 0, none⟩ = some (.int .u64 x159000_1) ∧ w'.cell? ⟨gb158, 1, none⟩ = some (.int .u64 x159001_1) ∧ w'.cell? ⟨gb158, 2, none⟩ = some (.int .u64 x159002_1) ∧ w'.cell? ⟨gb158, 3, none⟩ = some (.int .u64 x159003_1) ∧ w'.cell? ⟨gb158, 4, none⟩ = some (.string x159004_1) ∧ w'.cell? ⟨gb158, 5, none⟩ = some (.int .i64 (wrap64 (a0_5 + (a1.size : Int))))) (ds := [8]) #[false, false, false, false, false, false, false, false, false] (by kernel_rfl) rfl rfl ⟨ce BK158 0, ce BK158 1, ce BK158 2, ce BK158 3, ce BK158 4, ce BK158 5⟩ (fun hHeld => ?_); refine with_tabW sip_Write.tab6 sip_Write.bits6 (fun HT_ HW_ => ?_)
      generalize wr.drew = w20 at BK158 BK159 HB hHeld ⊢
      refine pu 0 ?_
      refine pu 2 ?_
      refine ta 1 hHeld ?_
      refine ta 3 hHeld ?_
      refine pu 4 ?_
      refine on1 5 (fun K hK => ?_)
      refine gs Try.func56 #[.string (x159004_1.extract 0 8)] ?_
      with_reducible refine (sip_number.calls k1 (x159004_1.extract 0 8) t161 _ A15.out).mono ?_
      rintro e w' ⟨rfl, ⟨nd, rfl⟩⟩
      refine ⟨_, rfl, ?_⟩
      refine hK.out _ _ ⟨ce BK158 0, ce BK158 1, ce BK158 2, ce BK158 3, ce BK158 4, ce BK158 5⟩ (fun hHeld => ?_)
      clear hK K
      refine nm ?_
      refine on1 6 (fun K hK => ?_)
      refine gs Try.func55 #[.agg #[.int .u64 x159000_1, .int .u64 x159001_1, .int .u64 x159002_1, .int .u64 x159003_1], .int .u64 t161] ?_
      with_reducible refine (sip_take.calls x159000_1 x159001_1 x159002_1 x159003_1 t161 t162 t163 t164 t165 _ A16.out).mono ?_
      rintro e w21 ⟨rfl, hb⟩
      refine ⟨_, rfl, ?_⟩
      replace BK158 := am (blk_below (pk BK158.out) hb)
      replace BK159 := am (blk_below (pk BK159.out) hb)
      replace HB := am (below_step (pb HB) hb)
      (try clear hb)
      (try clear hb2)
      (try clear hk)
      (try clear hi)
      refine hK.out _ _ ⟨ce BK158 0, ce BK158 1, ce BK158 2, ce BK158 3, ce BK158 4, ce BK158 5⟩ (fun hHeld => ?_)
      clear hK K
      refine nm ?_
      refine pu 7 ?_
      refine last_ (i := 8) (N := none) #[true, true, true, true, true, true, true, true, true] rfl rfl (one_of HT_.out (by kernel_rfl)) (by decide) (fun K hK => ?_)
      have hs22 : w21.cell? ⟨gb158, 0, none⟩ = some (.int .u64 x159000_1) := ce BK158 0
      have hfs22 := blk_frozen BK158.out 0
      have hns22_1 := NB159_158.out
      have hms22_1 := NB158_159.out
      have hs23 : w21.cell? ⟨gb158, 1, none⟩ = some (.int .u64 x159001_1) := ce BK158 1
      have hfs23 := blk_frozen BK158.out 1
      have hns23_1 := NB159_158.out
      have hms23_1 := NB158_159.out
      have hs24 : w21.cell? ⟨gb158, 2, none⟩ = some (.int .u64 x159002_1) := ce BK158 2
      have hfs24 := blk_frozen BK158.out 2
      have hns24_1 := NB159_158.out
      have hms24_1 := NB158_159.out
      have hs25 : w21.cell? ⟨gb158, 3, none⟩ = some (.int .u64 x159003_1) := ce BK158 3
      have hfs25 := blk_frozen BK158.out 3
      have hns25_1 := NB159_158.out
      have hms25_1 := NB158_159.out
      refine skip_ (w1 := ?_) (by rfl) rfl ?_ ?_
      rotate_left
      ·go_simp
       rfl
      refine hK.out _ _ ?_
      clear hK K
      refine done_ (done_of HT_.out (by kernel_rfl)) ?_
      have hcz26_0 := ce BK158 0
      have hcz26_1 := ce BK158 1
      have hcz26_2 := ce BK158 2
      have hcz26_3 := ce BK158 3
      have hcz26_4 := ce BK158 4
      have hcz26_5 : w21.cell? ⟨gb158, 5, none⟩ = some (.int .i64 (wrap64 (a0_5 + (a1.size : Int)))) := ce BK158 5
      have hfz26_0 := fz BK158 0
      have hfz26_1 := fz BK158 1
      have hfz26_2 := fz BK158 2
      have hfz26_3 := fz BK158 3
      have hfz26_4 := fz BK158 4
      have hfz26_5 := fz BK158 5
      try go_wp2
      go_roundg k1
      case measure => have := HK1.out; omega
      case rel => exact ⟨(t162), (t163), (t164), (t165), (x159004_1.extract 8 x159004_1.size), H', ⟨by have := HK1.out; omega⟩, ⟨by refine pk ?_; refine blk_put (cs := #[.int .u64 t162, .int .u64 t163, .int .u64 t164, .int .u64 t165, .string x159004_1, .int .i64 (wrap64 (a0_5 + (a1.size : Int)))]) ?_ 4 _ rfl; refine pk ?_; refine blk_put (cs := #[.int .u64 t162, .int .u64 t163, .int .u64 t164, .int .u64 x159003_1, .string x159004_1, .int .i64 (wrap64 (a0_5 + (a1.size : Int)))]) ?_ 3 _ rfl; refine pk ?_; refine blk_put (cs := #[.int .u64 t162, .int .u64 t163, .int .u64 x159002_1, .int .u64 x159003_1, .string x159004_1, .int .i64 (wrap64 (a0_5 + (a1.size : Int)))]) ?_ 2 _ rfl; refine pk ?_; refine blk_put (cs := #[.int .u64 t162, .int .u64 x159001_1, .int .u64 x159002_1, .int .u64 x159003_1, .string x159004_1, .int .i64 (wrap64 (a0_5 + (a1.size : Int)))]) ?_ 1 _ rfl; refine pk ?_; refine blk_put (cs := #[.int .u64 x159000_1, .int .u64 x159001_1, .int .u64 x159002_1, .int .u64 x159003_1, .string x159004_1, .int .i64 (wrap64 (a0_5 + (a1.size : Int)))]) ?_ 0 _ rfl; refine pk ?_; exact BK158.out⟩, ⟨by refine pk ?_; refine blk_far ?_ NB159_158.out _; refine pk ?_; refine blk_far ?_ NB159_158.out _; refine pk ?_; refine blk_far ?_ NB159_158.out _; refine pk ?_; refine blk_far ?_ NB159_158.out _; refine pk ?_; refine blk_far ?_ NB159_158.out _; refine pk ?_; exact BK159.out⟩, ⟨pb HB⟩⟩
     ·rw [if_neg c14] at H
      exact absurd H (by simp)
    ·rw [if_neg c13] at H
     exact absurd H (by simp)
   ·rw [if_neg c12] at H
    have c12b0 : decide (8 ≤ (x159004_1.size : Int)) = false := decide_eq_false c12
    have c12b1 : decide (8 ≤ x159004_1.size) = false := decide_eq_false (by omega)
    clear c12
    simp only [Option.some.injEq, Prod.mk.injEq] at H
    obtain ⟨rfl, rfl, rfl, rfl, rfl, rfl⟩ := H
    have hnb27 := NB158_159.out
    have hnc27 := NB159_158.out
    have hcz28_0 := ce BK158 0
    have hcz28_1 := ce BK158 1
    have hcz28_2 := ce BK158 2
    have hcz28_3 := ce BK158 3
    have hcz28_4 := ce BK158 4
    have hcz28_5 : wr.cell? ⟨gb158, 5, none⟩ = some (.int .i64 (wrap64 (a0_5 + (a1.size : Int)))) := ce BK158 5
    have hfz28_0 := fz BK158 0
    have hfz28_1 := fz BK158 1
    have hfz28_2 := fz BK158 2
    have hfz28_3 := fz BK158 3
    have hfz28_4 := fz BK158 4
    have hfz28_5 := fz BK158 5
    have hcz29_0 := ce BK159 0
    have hcz29_1 := ce BK159 1
    have hcz29_2 := ce BK159 2
    have hcz29_3 := ce BK159 3
    have hcz29_4 := ce BK159 4
    have hcz29_5 := ce BK159 5
    have hfz29_0 := fz BK159 0
    have hfz29_1 := fz BK159 1
    have hfz29_2 := fz BK159 2
    have hfz29_3 := fz BK159 3
    have hfz29_4 := fz BK159 4
    have hfz29_5 := fz BK159 5
    go_wp2
    refine bodyPost_ret (results_cell_row rfl _ _ gb159 85 #[.int .u64 x159000_1, .int .u64 x159001_1, .int .u64 x159002_1, .int .u64 x159003_1, .string x159004_1, .int .i64 (wrap64 (a0_5 + (a1.size : Int)))] (0, 0) _ rfl (by refine pk ?_; refine blk_put (cs := #[.int .u64 x159000_1, .int .u64 x159001_1, .int .u64 x159002_1, .int .u64 x159003_1, .string x159004_1, .int .i64 0]) ?_ 5 _ rfl; refine pk ?_; refine blk_put (cs := #[.int .u64 x159000_1, .int .u64 x159001_1, .int .u64 x159002_1, .int .u64 x159003_1, .string (⟨#[]⟩ : ByteArray), .int .i64 0]) ?_ 4 _ rfl; refine pk ?_; refine blk_put (cs := #[.int .u64 x159000_1, .int .u64 x159001_1, .int .u64 x159002_1, .int .u64 0, .string (⟨#[]⟩ : ByteArray), .int .i64 0]) ?_ 3 _ rfl; refine pk ?_; refine blk_put (cs := #[.int .u64 x159000_1, .int .u64 x159001_1, .int .u64 0, .int .u64 0, .string (⟨#[]⟩ : ByteArray), .int .i64 0]) ?_ 2 _ rfl; refine pk ?_; refine blk_put (cs := #[.int .u64 x159000_1, .int .u64 0, .int .u64 0, .int .u64 0, .string (⟨#[]⟩ : ByteArray), .int .i64 0]) ?_ 1 _ rfl; refine pk ?_; refine blk_put (cs := #[.int .u64 0, .int .u64 0, .int .u64 0, .int .u64 0, .string (⟨#[]⟩ : ByteArray), .int .i64 0]) ?_ 0 _ rfl; refine pk ?_; exact BK159.out) Try.underlying85 rfl (by kernel_rfl)) rfl ?_
    exact ⟨by first | rfl | (simp [errW_none, errW_some] <;> rfl) | (simp [*, errW_none, errW_some] <;> rfl), pb HB⟩
def sip_New.f (a0_0 : Int) (a0_1 : Int) : Option (Int × Int × Int × Int × ByteArray × Int) := some (Go.bits .xor .u64 a0_0 8317987319222330741, Go.bits .xor .u64 a0_1 7237128888997146477, Go.bits .xor .u64 a0_0 7816392313619706465, Go.bits .xor .u64 a0_1 8387220255154660723, (⟨#[]⟩ : ByteArray), 0)
set_option maxHeartbeats 8000000 in
set_option maxRecDepth 100000 in
theorem sip_New.calls (a0_0 : Int) (a0_1 : Int) (r1 : Int) (r2 : Int) (r3 : Int) (r4 : Int) (r5 : ByteArray) (r6 : Int) (w : World) (h : sip_New.f a0_0 a0_1 = some (r1, r2, r3, r4, r5, r6)) :
  Calls Try.prog 42 #[.agg #[.int .u64 a0_0, .int .u64 a0_1]] w fun e w' => e = .returned (.agg #[.int .u64 r1, .int .u64 r2, .int .u64 r3, .int .u64 r4, .string r5, .int .i64 r6]) ∧ Below w.heap.size w w' := by
 have hu24 := Try.underlying24
 have hu85 := Try.underlying85
 have hu75 := Try.underlying75
 have HB := am (Below.refl w.heap.size w)
 have H : (some (Go.bits .xor .u64 a0_0 8317987319222330741, Go.bits .xor .u64 a0_1 7237128888997146477, Go.bits .xor .u64 a0_0 7816392313619706465, Go.bits .xor .u64 a0_1 8387220255154660723, (⟨#[]⟩ : ByteArray), 0)) = some (r1, r2, r3, r4, r5, r6) := h
 clear h
 simp only [Option.some.injEq, Prod.mk.injEq] at H
 obtain ⟨rfl, rfl, rfl, rfl, rfl, rfl⟩ := H
 go_enter Try.func42, Try.ntmps42
 go_wp2_with (first | ((with_reducible refine gate_dst (N := 1) rfl ?_); refine be 1 #[.int .u64 a0_0, .int .u64 a0_1] 24 ?_; intro gb166 hg w2 hbox hb; have n0_ := am (below_step (pb HB) hb); have n1_ := am (hbox); have n2_ := am ((pg hg HB : w.heap.size ≤ gb166)); have n3_ := am ((pg hg HB : w.heap.size ≤ gb166)); clear HB; have HB := n0_; have BK166 := n1_; have GW166 := n2_; have GE166 := n3_; clear n0_ n1_ n2_ n3_; clear hb hbox hg) | ((with_reducible refine gate_dst (N := 2) rfl ?_); refine be 2 #[.int .u64 0, .int .u64 0, .int .u64 0, .int .u64 0, .string (⟨#[]⟩ : ByteArray), .int .i64 0] 85 ?_; intro gb167 hg w3 hbox hb; have n0_ := am (blk_below (pk BK166.out) hb); have n1_ := am (below_step (pb HB) hb); have n2_ := am (hbox); have n3_ := am ((pg hg HB : w.heap.size ≤ gb167)); have n4_ := am ((pg hg HB : w.heap.size ≤ gb167)); have n5_ := am ((pl hg (pk BK166.out) : gb166 ≠ gb167)); have n6_ := am ((pl' hg (pk BK166.out) : gb167 ≠ gb166)); clear BK166; clear HB; have BK166 := n0_; have HB := n1_; have BK167 := n2_; have GW167 := n3_; have GE167 := n4_; have NB166_167 := n5_; have NB167_166 := n6_; clear n0_ n1_ n2_ n3_ n4_ n5_ n6_; clear hb hbox hg; have hnb4 := NB166_167.out; have hnc4 := NB167_166.out; have hcz5_0 := ce BK166 0; have hcz5_1 := ce BK166 1; have hfz5_0 := fz BK166 0; have hfz5_1 := fz BK166 1; have hcz6_0 := ce BK167 0; have hcz6_1 := ce BK167 1; have hcz6_2 := ce BK167 2; have hcz6_3 := ce BK167 3; have hcz6_4 := ce BK167 4; have hcz6_5 := ce BK167 5; have hfz6_0 := fz BK167 0; have hfz6_1 := fz BK167 1; have hfz6_2 := fz BK167 2; have hfz6_3 := fz BK167 3; have hfz6_4 := fz BK167 4; have hfz6_5 := fz BK167 5))
 refine bodyPost_ret (results_cell_row rfl _ _ gb167 85 #[.int .u64 (Go.bits .xor .u64 a0_0 8317987319222330741), .int .u64 (Go.bits .xor .u64 a0_1 7237128888997146477), .int .u64 (Go.bits .xor .u64 a0_0 7816392313619706465), .int .u64 (Go.bits .xor .u64 a0_1 8387220255154660723), .string (⟨#[]⟩ : ByteArray), .int .i64 0] (0, 0) _ rfl (by refine pk ?_; refine blk_put (cs := #[.int .u64 (Go.bits .xor .u64 a0_0 8317987319222330741), .int .u64 (Go.bits .xor .u64 a0_1 7237128888997146477), .int .u64 (Go.bits .xor .u64 a0_0 7816392313619706465), .int .u64 (Go.bits .xor .u64 a0_1 8387220255154660723), .string (⟨#[]⟩ : ByteArray), .int .i64 0]) ?_ 5 _ rfl; refine pk ?_; refine blk_put (cs := #[.int .u64 (Go.bits .xor .u64 a0_0 8317987319222330741), .int .u64 (Go.bits .xor .u64 a0_1 7237128888997146477), .int .u64 (Go.bits .xor .u64 a0_0 7816392313619706465), .int .u64 (Go.bits .xor .u64 a0_1 8387220255154660723), .string (⟨#[]⟩ : ByteArray), .int .i64 0]) ?_ 4 _ rfl; refine pk ?_; refine blk_put (cs := #[.int .u64 (Go.bits .xor .u64 a0_0 8317987319222330741), .int .u64 (Go.bits .xor .u64 a0_1 7237128888997146477), .int .u64 (Go.bits .xor .u64 a0_0 7816392313619706465), .int .u64 0, .string (⟨#[]⟩ : ByteArray), .int .i64 0]) ?_ 3 _ rfl; refine pk ?_; refine blk_put (cs := #[.int .u64 (Go.bits .xor .u64 a0_0 8317987319222330741), .int .u64 (Go.bits .xor .u64 a0_1 7237128888997146477), .int .u64 0, .int .u64 0, .string (⟨#[]⟩ : ByteArray), .int .i64 0]) ?_ 2 _ rfl; refine pk ?_; refine blk_put (cs := #[.int .u64 (Go.bits .xor .u64 a0_0 8317987319222330741), .int .u64 0, .int .u64 0, .int .u64 0, .string (⟨#[]⟩ : ByteArray), .int .i64 0]) ?_ 1 _ rfl; refine pk ?_; refine blk_put (cs := #[.int .u64 0, .int .u64 0, .int .u64 0, .int .u64 0, .string (⟨#[]⟩ : ByteArray), .int .i64 0]) ?_ 0 _ rfl; refine pk ?_; exact BK167.out) Try.underlying85 rfl (by kernel_rfl)) rfl ?_
 exact ⟨by first | rfl | (simp [errW_none, errW_some] <;> rfl) | (simp [*, errW_none, errW_some] <;> rfl), pb HB⟩

end Go.Proofs.Ytmfffbafldbihaa.H
