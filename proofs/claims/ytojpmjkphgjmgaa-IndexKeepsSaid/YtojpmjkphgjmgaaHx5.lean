import Derived.Test.YtojpmjkphgjmgaaHx0
import Derived.Test.YtojpmjkphgjmgaaHx4
namespace Go.Proofs.Ytojpmjkphgjmgaa.H
open Go.RowKit Go.Proofs.YtojpmjkphgjmgaaW.PrintWords Go.Proofs.YtojpmjkphgjmgaaW.PrintLast Go.Proofs.YtojpmjkphgjmgaaW.PrintMore Go.Proofs.YtojpmjkphgjmgaaW.Sq
attribute [local go_sem] max2_int min2_int max_two min_two max_three min_three max_four min_four
set_option linter.unusedVariables false
set_option linter.unusedSimpArgs false

def sip_Done.l0 : Nat → Int → Int → Int → Int → Int → Option (Int)
 | 0, _, _, _, _, _ => none
 | k + 1, x22, x138000, x138001, x138002, x138003 => if x22 < 4 then ((sip_turn.f x138000 x138001 x138002 x138003).bind fun bt138 => (sip_Done.l0 k (wrap64 (x22 + 1)) bt138.1 bt138.2.1 bt138.2.2.1 bt138.2.2.2)) else (some (Go.bits .xor .u64 (Go.bits .xor .u64 (Go.bits .xor .u64 x138000 x138001) x138002) x138003))
def sip_Done.f (k : Nat) (a0_0 : Int) (a0_1 : Int) (a0_2 : Int) (a0_3 : Int) (a0_4 : ByteArray) (a0_5 : Int) : Option (Int) := (sip_right.f a0_0 a0_1 a0_2 a0_3 a0_4 a0_5).bind fun t131 => (if t131 = true then ((sip_number.f k a0_4).bind fun t132 => ((sip_take.f a0_0 a0_1 a0_2 a0_3 (Go.bits .or .u64 t132 (IntKind.u64.wrap ((IntKind.u64.wrap (a0_5)) * 72057594037927936)))).bind fun bt133 => (sip_Done.l0 k 0 bt133.1 bt133.2.1 (Go.bits .xor .u64 bt133.2.2.1 255) bt133.2.2.2))) else (some 0))
theorem sip_Done.mono_l : ∀ k, (∀ y0 y1 y2 y3 y4, LeO (sip_Done.l0 k y0 y1 y2 y3 y4) (sip_Done.l0 (k + 1) y0 y1 y2 y3 y4))
 | 0 => fun _ _ _ _ _ r h => by simp [sip_Done.l0] at h
 | k + 1 => by
  have ih0 := sip_Done.mono_l k
  ·intro y0 y1 y2 y3 y4
   unfold sip_Done.l0
   repeat' first
   | (with_reducible exact ih0 _ _ _ _ _)
   | (with_reducible exact sip_number.mono _ _)
   | (with_reducible exact LeO.refl _)
   | (with_reducible exact LeO.none _)
   | (with_reducible refine LeO.ite ?_ ?_)
   | (with_reducible refine LeO.bind ?_ (fun _ => ?_))
theorem sip_Done.mono : ∀ a0 a1 a2 a3 a4 a5 k, LeO (sip_Done.f k a0 a1 a2 a3 a4 a5) (sip_Done.f (k + 1) a0 a1 a2 a3 a4 a5) := by
 intro a0 a1 a2 a3 a4 a5 k
 have ih0 := sip_Done.mono_l k
 unfold sip_Done.f
 repeat' first
   | (with_reducible exact ih0 _ _ _ _ _)
   | (with_reducible exact sip_number.mono _ _)
   | (with_reducible exact LeO.refl _)
   | (with_reducible exact LeO.none _)
   | (with_reducible refine LeO.ite ?_ ?_)
   | (with_reducible refine LeO.bind ?_ (fun _ => ?_))
def sip_Done.T3 : Bool × List (List Nat × List Nat) := (true, [([], []), ([0], [0]), ([], []), ([2], [2]), ([3], [3]), ([], []), ([5], [5]), ([6], [6]), ([7], [7]), ([4, 8], [4, 8]), ([1, 9, 4], [1, 9]), ([], []), ([11, 10, 10, 0, 1, 2, 3, 4, 5, 6, 7, 8, 9, 10, 11], [10, 11])])
def sip_Done.B3 : List Nat := [0, 1, 0, 4, 12, 0, 32, 96, 224, 508, 1023, 0, 4095]
theorem sip_Done.tab3 : rtab .any (opsOf Try.f42 3) = sip_Done.T3 := by kernel_rfl
theorem sip_Done.bits3 : waitsOk sip_Done.T3.2 sip_Done.B3 = true := by kernel_rfl
set_option maxHeartbeats 8000000 in
set_option maxRecDepth 100000 in
theorem sip_Done.calls (k : Nat) (a0_0 : Int) (a0_1 : Int) (a0_2 : Int) (a0_3 : Int) (a0_4 : ByteArray) (a0_5 : Int) (r : Int) (w : World) (h : sip_Done.f k a0_0 a0_1 a0_2 a0_3 a0_4 a0_5 = some r) :
  Calls Try.prog 42 #[.agg #[.int .u64 a0_0, .int .u64 a0_1, .int .u64 a0_2, .int .u64 a0_3, .string a0_4, .int .i64 a0_5]] w fun e w' => e = .returned (.int .u64 r) ∧ Below w.heap.size w w' := by
 have hu80 := Try.underlying80
 have hu76 := Try.underlying76
 have HB := am (Below.refl w.heap.size w)
 have H : ((sip_right.f a0_0 a0_1 a0_2 a0_3 a0_4 a0_5).bind fun t131 => (if t131 = true then ((sip_number.f k a0_4).bind fun t132 => ((sip_take.f a0_0 a0_1 a0_2 a0_3 (Go.bits .or .u64 t132 (IntKind.u64.wrap ((IntKind.u64.wrap (a0_5)) * 72057594037927936)))).bind fun bt133 => (sip_Done.l0 k 0 bt133.1 bt133.2.1 (Go.bits .xor .u64 bt133.2.2.1 255) bt133.2.2.2))) else (some 0))) = some r := h
 clear h
 replace H := Option.bind_eq_some_iff.mp H
 obtain ⟨t131, A20, H⟩ := H
 replace H : (if t131 = true then ((sip_number.f k a0_4).bind fun t132 => ((sip_take.f a0_0 a0_1 a0_2 a0_3 (Go.bits .or .u64 t132 (IntKind.u64.wrap ((IntKind.u64.wrap (a0_5)) * 72057594037927936)))).bind fun bt133 => (sip_Done.l0 k 0 bt133.1 bt133.2.1 (Go.bits .xor .u64 bt133.2.2.1 255) bt133.2.2.2))) else (some 0)) = some r := H
 have A2 := am A20
 clear A20
 by_cases c3 : t131 = true
 rotate_left
 ·replace c3 := Bool.eq_false_iff.mpr c3
  subst c3
  have H1 : (some 0) = some r := by rw [if_neg (show ¬ (false = true) by decide)] at H; exact H
  clear H
  have H := H1
  clear H1
  obtain rfl := Option.some.inj H
  go_enter Try.func42, Try.ntmps42
  go_wp2_with (first | ((with_reducible refine gate_dst (N := 1) rfl ?_); refine be 1 #[.int .u64 a0_0, .int .u64 a0_1, .int .u64 a0_2, .int .u64 a0_3, .string a0_4, .int .i64 a0_5] 80 ?_; intro gb130 hg w27 hbox hb; have n0_ := am (below_step (pb HB) hb); have n1_ := am (hbox); have n2_ := am ((pg hg HB : w.heap.size ≤ gb130)); have n3_ := am ((pg hg HB : w.heap.size ≤ gb130)); clear HB; have HB := n0_; have BK130 := n1_; have GW130 := n2_; have GE130 := n3_; clear n0_ n1_ n2_ n3_; clear hb hbox hg; have hcz28_0 := ce BK130 0; have hcz28_1 := ce BK130 1; have hcz28_2 := ce BK130 2; have hcz28_3 := ce BK130 3; have hcz28_4 := ce BK130 4; have hcz28_5 := ce BK130 5; have hfz28_0 := fz BK130 0; have hfz28_1 := fz BK130 1; have hfz28_2 := fz BK130 2; have hfz28_3 := fz BK130 3; have hfz28_4 := fz BK130 4; have hfz28_5 := fz BK130 5) | ((with_reducible refine gate_callee (f := 46) rfl ?_); refine gl (some 5) Try.func46 #[.agg #[.int .u64 a0_0, .int .u64 a0_1, .int .u64 a0_2, .int .u64 a0_3, .string a0_4, .int .i64 a0_5]] ?_; (with_reducible refine (sip_right.calls a0_0 a0_1 a0_2 a0_3 a0_4 a0_5 false _ A2.out).mono ?_); rintro e w29 ⟨rfl, hb⟩; refine ⟨_, rfl, ?_⟩; replace BK130 := am (blk_below (pk BK130.out) hb); replace HB := am (below_step (pb HB) hb); (try clear hb); (try clear hb2); (try clear hk); (try clear hi)))
  go_ret
  exact ⟨by first | rfl | (simp [errW_none, errW_some] <;> rfl) | (simp [*, errW_none, errW_some] <;> rfl), pb HB⟩
 subst c3
 have H1 : ((sip_number.f k a0_4).bind fun t132 => ((sip_take.f a0_0 a0_1 a0_2 a0_3 (Go.bits .or .u64 t132 (IntKind.u64.wrap ((IntKind.u64.wrap (a0_5)) * 72057594037927936)))).bind fun bt133 => (sip_Done.l0 k 0 bt133.1 bt133.2.1 (Go.bits .xor .u64 bt133.2.2.1 255) bt133.2.2.2))) = some r := by rw [if_pos rfl] at H; exact H
 clear H
 have H := H1
 clear H1
 replace H := Option.bind_eq_some_iff.mp H
 obtain ⟨t132, A40, H⟩ := H
 replace H : ((sip_take.f a0_0 a0_1 a0_2 a0_3 (Go.bits .or .u64 t132 (IntKind.u64.wrap ((IntKind.u64.wrap (a0_5)) * 72057594037927936)))).bind fun bt133 => (sip_Done.l0 k 0 bt133.1 bt133.2.1 (Go.bits .xor .u64 bt133.2.2.1 255) bt133.2.2.2)) = some r := H
 have A4 := am A40
 clear A40
 replace H := Option.bind_eq_some_iff.mp H
 obtain ⟨⟨t133, t134, t135, t136⟩, A50, H⟩ := H
 replace H : (sip_Done.l0 k 0 t133 t134 (Go.bits .xor .u64 t135 255) t136) = some r := H
 have A5 := am A50
 clear A50
 have H' := am H
 clear H
 go_enter Try.func42, Try.ntmps42
 try go_wp2_with (first | ((with_reducible refine gate_dst (N := 1) rfl ?_); refine be 1 #[.int .u64 a0_0, .int .u64 a0_1, .int .u64 a0_2, .int .u64 a0_3, .string a0_4, .int .i64 a0_5] 80 ?_; intro gb130 hg w6 hbox hb; have n0_ := am (below_step (pb HB) hb); have n1_ := am (hbox); have n2_ := am ((pg hg HB : w.heap.size ≤ gb130)); have n3_ := am ((pg hg HB : w.heap.size ≤ gb130)); clear HB; have HB := n0_; have BK130 := n1_; have GW130 := n2_; have GE130 := n3_; clear n0_ n1_ n2_ n3_; clear hb hbox hg; have hcz7_0 := ce BK130 0; have hcz7_1 := ce BK130 1; have hcz7_2 := ce BK130 2; have hcz7_3 := ce BK130 3; have hcz7_4 := ce BK130 4; have hcz7_5 := ce BK130 5; have hfz7_0 := fz BK130 0; have hfz7_1 := fz BK130 1; have hfz7_2 := fz BK130 2; have hfz7_3 := fz BK130 3; have hfz7_4 := fz BK130 4; have hfz7_5 := fz BK130 5) | ((with_reducible refine gate_callee (f := 46) rfl ?_); refine gl (some 5) Try.func46 #[.agg #[.int .u64 a0_0, .int .u64 a0_1, .int .u64 a0_2, .int .u64 a0_3, .string a0_4, .int .i64 a0_5]] ?_; (with_reducible refine (sip_right.calls a0_0 a0_1 a0_2 a0_3 a0_4 a0_5 true _ A2.out).mono ?_); rintro e w8 ⟨rfl, hb⟩; refine ⟨_, rfl, ?_⟩; replace BK130 := am (blk_below (pk BK130.out) hb); replace HB := am (below_step (pb HB) hb); (try clear hb); (try clear hb2); (try clear hk); (try clear hi)))
 replace BK130 := am (blk_drew BK130.out)
 replace HB := am (below_drew1 HB.out)
 refine start_ (n := 13) (S := fun w' => w'.cell? ⟨gb130, 0, none⟩ = some (.int .u64 a0_0) ∧ w'.cell? ⟨gb130, 1, none⟩ = some (.int .u64 a0_1) ∧ w'.cell? ⟨gb130, 2, none⟩ = some (.int .u64 a0_2) ∧ w'.cell? ⟨gb130, 3, none⟩ = some (.int .u64 a0_3) ∧ w'.cell? ⟨gb130, 4, none⟩ = some (.string a0_4) ∧ w'.cell? ⟨gb130, 5, none⟩ = some (.int .i64 a0_5)) (ds := []) #[false, false, false, false, false, false, false, false, false, false, false, false, false] (by kernel_rfl) rfl rfl ⟨ce BK130 0, ce BK130 1, ce BK130 2, ce BK130 3, ce BK130 4, ce BK130 5⟩ (fun hHeld => ?_); refine with_tabW sip_Done.tab3 sip_Done.bits3 (fun HT_ HW_ => ?_)
 generalize w8.drew = w9 at BK130 HB hHeld ⊢
 refine pu 0 ?_
 refine pu 2 ?_
 refine pu 5 ?_
 refine ta 1 hHeld ?_
 refine ta 3 hHeld ?_
 refine ta 6 hHeld ?_
 refine pu 7 ?_
 refine pu 8 ?_
 refine join_ (σ := Nat) 1 #[true, true, true, true, true, true, true, true, true, true, true, true, false] (fun s_ => [(11, .int .u64 t132), (17, .agg #[.int .u64 t133, .int .u64 t134, .int .u64 t135, .int .u64 t136]), (3, .pointer (some ⟨s_, 0, none⟩)), (16, .int .u64 (Go.bits .or .u64 t132 (IntKind.u64.wrap ((IntKind.u64.wrap (a0_5)) * 72057594037927936))))]) (fun s_ w' => (w'.cell? ⟨gb130, 0, none⟩ = some (.int .u64 a0_0) ∧ w'.cell? ⟨gb130, 1, none⟩ = some (.int .u64 a0_1) ∧ w'.cell? ⟨gb130, 2, none⟩ = some (.int .u64 a0_2) ∧ w'.cell? ⟨gb130, 3, none⟩ = some (.int .u64 a0_3) ∧ w'.cell? ⟨gb130, 4, none⟩ = some (.string a0_4) ∧ w'.cell? ⟨gb130, 5, none⟩ = some (.int .i64 a0_5)) ∧ (w'.heap[gb130]? = some (.cells #[.int .u64 a0_0, .int .u64 a0_1, .int .u64 a0_2, .int .u64 a0_3, .string a0_4, .int .i64 a0_5] 80 (0, 0))) ∧ (w'.heap[s_]? = some (.cells #[.int .u64 0, .int .u64 0, .int .u64 0, .int .u64 0] 76 (0, 0))) ∧ (w.heap.size ≤ s_) ∧ (w.heap.size ≤ s_) ∧ (gb130 ≠ s_) ∧ (s_ ≠ gb130) ∧ (Below w.heap.size w w')) ?_ ?_
 ·rintro gb137 w12 ⟨hS_, h0_, h1_, h2_, h3_, h4_, h5_, h6_⟩
  replace BK130 : Aside0 (w12.heap[gb130]? = some (.cells #[.int .u64 a0_0, .int .u64 a0_1, .int .u64 a0_2, .int .u64 a0_3, .string a0_4, .int .i64 a0_5] 80 (0, 0))) := ⟨h0_⟩
  have BK137 : Aside0 (w12.heap[gb137]? = some (.cells #[.int .u64 0, .int .u64 0, .int .u64 0, .int .u64 0] 76 (0, 0))) := ⟨h1_⟩
  have GW137 : Aside0 (w.heap.size ≤ gb137) := ⟨h2_⟩
  have GE137 : Aside0 (w.heap.size ≤ gb137) := ⟨h3_⟩
  have NB130_137 : Aside0 (gb130 ≠ gb137) := ⟨h4_⟩
  have NB137_130 : Aside0 (gb137 ≠ gb130) := ⟨h5_⟩
  replace HB : Aside0 (Below w.heap.size w w12) := ⟨h6_⟩
  clear h0_ h1_ h2_ h3_ h4_ h5_ h6_
  have hHeld : w12.cell? ⟨gb130, 0, none⟩ = some (.int .u64 a0_0) ∧ w12.cell? ⟨gb130, 1, none⟩ = some (.int .u64 a0_1) ∧ w12.cell? ⟨gb130, 2, none⟩ = some (.int .u64 a0_2) ∧ w12.cell? ⟨gb130, 3, none⟩ = some (.int .u64 a0_3) ∧ w12.cell? ⟨gb130, 4, none⟩ = some (.string a0_4) ∧ w12.cell? ⟨gb130, 5, none⟩ = some (.int .i64 a0_5) := hS_
  refine norm_ (a' := ?_) ?_ ?_
  rotate_left
  ·simp only [putAll, Act.put, List.setIfInBounds_toArray, List.set_cons_zero, List.set_cons_succ]
   rfl
  refine one_ (i := 12) (N := none) #[true, true, true, true, true, true, true, true, true, true, true, true, true] rfl rfl (one_of HT_.out (by kernel_rfl)) (by decide) (fun K hK => ?_)
  have hs13 : w12.cell? ⟨gb137, 0, none⟩ = some (.int .u64 0) := ce BK137 0
  have hfs13 := blk_frozen BK137.out 0
  have hns13_0 := NB130_137.out
  have hms13_0 := NB137_130.out
  have hs14 : w12.cell? ⟨gb137, 1, none⟩ = some (.int .u64 0) := ce BK137 1
  have hfs14 := blk_frozen BK137.out 1
  have hns14_0 := NB130_137.out
  have hms14_0 := NB137_130.out
  have hs15 : w12.cell? ⟨gb137, 2, none⟩ = some (.int .u64 0) := ce BK137 2
  have hfs15 := blk_frozen BK137.out 2
  have hns15_0 := NB130_137.out
  have hms15_0 := NB137_130.out
  have hs16 : w12.cell? ⟨gb137, 3, none⟩ = some (.int .u64 0) := ce BK137 3
  have hfs16 := blk_frozen BK137.out 3
  have hns16_0 := NB130_137.out
  have hms16_0 := NB137_130.out
  refine skip_ (w1 := ?_) (by rfl) rfl ?_ ?_
  rotate_left
  ·go_simp
   rfl
  refine hK.out _ _ ⟨((cell_far (p := ⟨gb137, _, none⟩) NB130_137.out _).trans (((cell_far (p := ⟨gb137, _, none⟩) NB130_137.out _).trans (((cell_far (p := ⟨gb137, _, none⟩) NB130_137.out _).trans (((cell_far (p := ⟨gb137, _, none⟩) NB130_137.out _).trans (hHeld.1)))))))), ((cell_far (p := ⟨gb137, _, none⟩) NB130_137.out _).trans (((cell_far (p := ⟨gb137, _, none⟩) NB130_137.out _).trans (((cell_far (p := ⟨gb137, _, none⟩) NB130_137.out _).trans (((cell_far (p := ⟨gb137, _, none⟩) NB130_137.out _).trans (hHeld.2.1)))))))), ((cell_far (p := ⟨gb137, _, none⟩) NB130_137.out _).trans (((cell_far (p := ⟨gb137, _, none⟩) NB130_137.out _).trans (((cell_far (p := ⟨gb137, _, none⟩) NB130_137.out _).trans (((cell_far (p := ⟨gb137, _, none⟩) NB130_137.out _).trans (hHeld.2.2.1)))))))), ((cell_far (p := ⟨gb137, _, none⟩) NB130_137.out _).trans (((cell_far (p := ⟨gb137, _, none⟩) NB130_137.out _).trans (((cell_far (p := ⟨gb137, _, none⟩) NB130_137.out _).trans (((cell_far (p := ⟨gb137, _, none⟩) NB130_137.out _).trans (hHeld.2.2.2.1)))))))), ((cell_far (p := ⟨gb137, _, none⟩) NB130_137.out _).trans (((cell_far (p := ⟨gb137, _, none⟩) NB130_137.out _).trans (((cell_far (p := ⟨gb137, _, none⟩) NB130_137.out _).trans (((cell_far (p := ⟨gb137, _, none⟩) NB130_137.out _).trans (hHeld.2.2.2.2.1)))))))), ((cell_far (p := ⟨gb137, _, none⟩) NB130_137.out _).trans (((cell_far (p := ⟨gb137, _, none⟩) NB130_137.out _).trans (((cell_far (p := ⟨gb137, _, none⟩) NB130_137.out _).trans (((cell_far (p := ⟨gb137, _, none⟩) NB130_137.out _).trans (hHeld.2.2.2.2.2))))))))⟩ (fun hHeld => ?_)
  clear hK K
  refine done_ (done_of HT_.out (by kernel_rfl)) ?_
  have hnb17 := NB137_130.out
  have hnc17 := NB130_137.out
  have hcz18_0 := ce BK137 0
  have hcz18_1 := ce BK137 1
  have hcz18_2 := ce BK137 2
  have hcz18_3 := ce BK137 3
  have hfz18_0 := fz BK137 0
  have hfz18_1 := fz BK137 1
  have hfz18_2 := fz BK137 2
  have hfz18_3 := fz BK137 3
  try go_wp2
  go_loopg [22] k (fun kq v22 w' => ∃ (x22_1 : Int) (x138000_1 : Int) (x138001_1 : Int) (x138002_1 : Int) (x138003_1 : Int), v22 = .int .i64 x22_1 ∧ Aside0 (sip_Done.l0 kq x22_1 x138000_1 x138001_1 x138002_1 x138003_1 = some r) ∧ Aside0 (kq ≤ k) ∧ Aside0 (w'.heap[gb130]? = some (.cells #[.int .u64 a0_0, .int .u64 a0_1, .int .u64 a0_2, .int .u64 a0_3, .string a0_4, .int .i64 a0_5] 80 (0, 0))) ∧ Aside0 (w'.heap[gb137]? = some (.cells #[.int .u64 x138000_1, .int .u64 x138001_1, .int .u64 x138002_1, .int .u64 x138003_1] 76 (0, 0))) ∧ Aside0 (Below w.heap.size w w'))
  case atStart => exact ⟨(0), (t133), (t134), (Go.bits .xor .u64 t135 255), (t136), (by first | rfl | (simp; done) | (simp [*]; done)), H', ⟨Nat.le_refl _⟩, ⟨by refine pk ?_; refine blk_far ?_ NB130_137.out _; refine pk ?_; refine blk_far ?_ NB130_137.out _; refine pk ?_; refine blk_far ?_ NB130_137.out _; refine pk ?_; refine blk_far ?_ NB130_137.out _; refine pk ?_; refine blk_far ?_ NB130_137.out _; refine pk ?_; exact BK130.out⟩, ⟨by refine pk ?_; refine blk_put (cs := #[.int .u64 t133, .int .u64 t134, .int .u64 t135, .int .u64 t136]) ?_ 2 _ rfl; refine pk ?_; refine blk_put (cs := #[.int .u64 t133, .int .u64 t134, .int .u64 t135, .int .u64 0]) ?_ 3 _ rfl; refine pk ?_; refine blk_put (cs := #[.int .u64 t133, .int .u64 t134, .int .u64 0, .int .u64 0]) ?_ 2 _ rfl; refine pk ?_; refine blk_put (cs := #[.int .u64 t133, .int .u64 0, .int .u64 0, .int .u64 0]) ?_ 1 _ rfl; refine pk ?_; refine blk_put (cs := #[.int .u64 0, .int .u64 0, .int .u64 0, .int .u64 0]) ?_ 0 _ rfl; refine pk ?_; exact BK137.out⟩, ⟨pb HB⟩⟩
  case round =>
   clear H'
   try clear c1
   try clear p2
   try clear c3
   try clear c4
   try clear c17
   try clear hcz18_0 hcz18_1 hcz18_2 hcz18_3
   try clear hcz7_0 hcz7_1 hcz7_2 hcz7_3 hcz7_4 hcz7_5
   try clear hfz18_0 hfz18_1 hfz18_2 hfz18_3
   try clear hfz7_0 hfz7_1 hfz7_2 hfz7_3 hfz7_4 hfz7_5
   obtain ⟨x22_1, x138000_1, x138001_1, x138002_1, x138003_1, rfl, HA, HK1, BK130, BK137, HB⟩ := hrel
   cases gk with
   | zero => exact absurd HA.out (by simp [sip_Done.l0])
   | succ k1 =>
    have H := HA.out
    clear HA
    simp only [sip_Done.l0] at H
    by_cases c19 : x22_1 < 4
    ·rw [if_pos c19] at H
     have c19b0 : decide (x22_1 < 4) = true := decide_eq_true c19
     clear c19
     replace H := Option.bind_eq_some_iff.mp H
     obtain ⟨⟨t138, t139, t140, t141⟩, A200, H⟩ := H
     replace H : (sip_Done.l0 k1 (wrap64 (x22_1 + 1)) t138 t139 t140 t141) = some r := H
     have A20 := am A200
     clear A200
     have H' := am H
     clear H
     have hnb21 := NB137_130.out
     have hnc21 := NB130_137.out
     have hcz22_0 := ce BK137 0
     have hcz22_1 := ce BK137 1
     have hcz22_2 := ce BK137 2
     have hcz22_3 := ce BK137 3
     have hfz22_0 := fz BK137 0
     have hfz22_1 := fz BK137 1
     have hfz22_2 := fz BK137 2
     have hfz22_3 := fz BK137 3
     go_wp2_with (first | ((with_reducible refine gate_callee (f := 49) rfl ?_); refine gl (some 25) Try.func49 #[.agg #[.int .u64 x138000_1, .int .u64 x138001_1, .int .u64 x138002_1, .int .u64 x138003_1]] ?_; (with_reducible refine (sip_turn.calls x138000_1 x138001_1 x138002_1 x138003_1 t138 t139 t140 t141 _ A20.out).mono ?_); rintro e w23 ⟨rfl, hb⟩; refine ⟨_, rfl, ?_⟩; replace BK130 := am (blk_below (pk BK130.out) hb); replace BK137 := am (blk_below (pk BK137.out) hb); replace HB := am (below_step (pb HB) hb); (try clear hb); (try clear hb2); (try clear hk); (try clear hi); have hcz24_0 := ce BK137 0; have hcz24_1 := ce BK137 1; have hcz24_2 := ce BK137 2; have hcz24_3 := ce BK137 3; have hfz24_0 := fz BK137 0; have hfz24_1 := fz BK137 1; have hfz24_2 := fz BK137 2; have hfz24_3 := fz BK137 3))
     go_roundg k1
     case measure => have := HK1.out; omega
     case rel => exact ⟨(wrap64 (x22_1 + 1)), (t138), (t139), (t140), (t141), (by first | rfl | (simp; done) | (simp [*]; done)), H', ⟨by have := HK1.out; omega⟩, ⟨by refine pk ?_; refine blk_far ?_ NB130_137.out _; refine pk ?_; refine blk_far ?_ NB130_137.out _; refine pk ?_; refine blk_far ?_ NB130_137.out _; refine pk ?_; refine blk_far ?_ NB130_137.out _; refine pk ?_; exact BK130.out⟩, ⟨by refine pk ?_; refine blk_put (cs := #[.int .u64 t138, .int .u64 t139, .int .u64 t140, .int .u64 x138003_1]) ?_ 3 _ rfl; refine pk ?_; refine blk_put (cs := #[.int .u64 t138, .int .u64 t139, .int .u64 x138002_1, .int .u64 x138003_1]) ?_ 2 _ rfl; refine pk ?_; refine blk_put (cs := #[.int .u64 t138, .int .u64 x138001_1, .int .u64 x138002_1, .int .u64 x138003_1]) ?_ 1 _ rfl; refine pk ?_; refine blk_put (cs := #[.int .u64 x138000_1, .int .u64 x138001_1, .int .u64 x138002_1, .int .u64 x138003_1]) ?_ 0 _ rfl; refine pk ?_; exact BK137.out⟩, ⟨pb HB⟩⟩
    ·rw [if_neg c19] at H
     have c19b0 : decide (x22_1 < 4) = false := decide_eq_false c19
     clear c19
     obtain rfl := Option.some.inj H
     have hnb25 := NB137_130.out
     have hnc25 := NB130_137.out
     have hcz26_0 := ce BK137 0
     have hcz26_1 := ce BK137 1
     have hcz26_2 := ce BK137 2
     have hcz26_3 := ce BK137 3
     have hfz26_0 := fz BK137 0
     have hfz26_1 := fz BK137 1
     have hfz26_2 := fz BK137 2
     have hfz26_3 := fz BK137 3
     go_wp2
     go_ret
     exact ⟨by first | rfl | (simp [errW_none, errW_some] <;> rfl) | (simp [*, errW_none, errW_some] <;> rfl), pb HB⟩
 intro hCont
 refine two_ (i := 4) (j := 11) (Ni := some 11) (Nj := some 3) #[true, true, true, true, true, true, true, true, true, false, false, false, false] #[true, true, true, true, false, true, true, true, true, false, false, true, false] rfl rfl rfl rfl (two_of HT_.out (by kernel_rfl)) (by decide) (by decide) (fun K hK => ?_) (fun K hK => ?_)
 rotate_left
 ·skip
  refine bx 3 #[.int .u64 0, .int .u64 0, .int .u64 0, .int .u64 0] 76 ?_
  intro gb137 hg w10 hbox hb
  have n0_ := am (blk_below (pk BK130.out) hb)
  have n1_ := am (below_step (pb HB) hb)
  have n2_ := am (hbox)
  have n3_ := am ((pg hg HB : w.heap.size ≤ gb137))
  have n4_ := am ((pg hg HB : w.heap.size ≤ gb137))
  have n5_ := am ((pl hg (pk BK130.out) : gb130 ≠ gb137))
  have n6_ := am ((pl' hg (pk BK130.out) : gb137 ≠ gb130))
  clear BK130 HB
  have BK130 := n0_
  have HB := n1_
  have BK137 := n2_
  have GW137 := n3_
  have GE137 := n4_
  have NB130_137 := n5_
  have NB137_130 := n6_
  clear n0_ n1_ n2_ n3_ n4_ n5_ n6_ hb hbox hg
  refine hK.out _ _ ⟨ce BK130 0, ce BK130 1, ce BK130 2, ce BK130 3, ce BK130 4, ce BK130 5⟩ (fun hHeld => ?_)
  clear hK K
  refine nm ?_
  refine on1 4 (fun K hK => ?_)
  refine gs Try.func48 #[.string a0_4] ?_
  with_reducible refine (sip_number.calls k a0_4 t132 _ A4.out).mono ?_
  rintro e w' ⟨rfl, ⟨nd, rfl⟩⟩
  refine ⟨_, rfl, ?_⟩
  refine hK.out _ _ ⟨ce BK130 0, ce BK130 1, ce BK130 2, ce BK130 3, ce BK130 4, ce BK130 5⟩ (fun hHeld => ?_)
  clear hK K
  refine nm ?_
  refine pu 9 ?_
  refine on1 10 (fun K hK => ?_)
  refine gs Try.func47 #[.agg #[.int .u64 a0_0, .int .u64 a0_1, .int .u64 a0_2, .int .u64 a0_3], .int .u64 (Go.bits .or .u64 t132 (IntKind.u64.wrap ((IntKind.u64.wrap (a0_5)) * 72057594037927936)))] ?_
  with_reducible refine (sip_take.calls a0_0 a0_1 a0_2 a0_3 (Go.bits .or .u64 t132 (IntKind.u64.wrap ((IntKind.u64.wrap (a0_5)) * 72057594037927936))) t133 t134 t135 t136 _ A5.out).mono ?_
  rintro e w11 ⟨rfl, hb⟩
  refine ⟨_, rfl, ?_⟩
  replace BK130 := am (blk_below (pk BK130.out) hb)
  replace BK137 := am (blk_below (pk BK137.out) hb)
  replace HB := am (below_step (pb HB) hb)
  (try clear hb)
  (try clear hb2)
  (try clear hk)
  (try clear hi)
  refine hK.out _ _ ⟨ce BK130 0, ce BK130 1, ce BK130 2, ce BK130 3, ce BK130 4, ce BK130 5⟩ (fun hHeld => ?_)
  clear hK K
  refine nm ?_
  exact nj (hCont (gb137) _ ⟨hHeld, (pk BK130.out), (pk BK137.out), GW137.out, GE137.out, NB130_137.out, NB137_130.out, (pb HB)⟩)
 skip
 refine gs Try.func48 #[.string a0_4] ?_
 with_reducible refine (sip_number.calls k a0_4 t132 _ A4.out).mono ?_
 rintro e w' ⟨rfl, ⟨nd, rfl⟩⟩
 refine ⟨_, rfl, ?_⟩
 refine hK.out _ _ ⟨ce BK130 0, ce BK130 1, ce BK130 2, ce BK130 3, ce BK130 4, ce BK130 5⟩ (fun hHeld => ?_)
 clear hK K
 refine nm ?_
 refine pu 9 ?_
 refine two_ (i := 10) (j := 11) (Ni := some 17) (Nj := some 3) #[true, true, true, true, true, true, true, true, true, true, true, false, false] #[true, true, true, true, true, true, true, true, true, true, false, true, false] rfl rfl rfl rfl (two_of HT_.out (by kernel_rfl)) (by decide) (by decide) (fun K hK => ?_) (fun K hK => ?_)
 ·skip
  refine gs Try.func47 #[.agg #[.int .u64 a0_0, .int .u64 a0_1, .int .u64 a0_2, .int .u64 a0_3], .int .u64 (Go.bits .or .u64 t132 (IntKind.u64.wrap ((IntKind.u64.wrap (a0_5)) * 72057594037927936)))] ?_
  with_reducible refine (sip_take.calls a0_0 a0_1 a0_2 a0_3 (Go.bits .or .u64 t132 (IntKind.u64.wrap ((IntKind.u64.wrap (a0_5)) * 72057594037927936))) t133 t134 t135 t136 _ A5.out).mono ?_
  rintro e w10 ⟨rfl, hb⟩
  refine ⟨_, rfl, ?_⟩
  replace BK130 := am (blk_below (pk BK130.out) hb)
  replace HB := am (below_step (pb HB) hb)
  (try clear hb)
  (try clear hb2)
  (try clear hk)
  (try clear hi)
  refine hK.out _ _ ⟨ce BK130 0, ce BK130 1, ce BK130 2, ce BK130 3, ce BK130 4, ce BK130 5⟩ (fun hHeld => ?_)
  clear hK K
  refine nm ?_
  refine on1 11 (fun K hK => ?_)
  refine bx 3 #[.int .u64 0, .int .u64 0, .int .u64 0, .int .u64 0] 76 ?_
  intro gb137 hg w11 hbox hb
  have n0_ := am (blk_below (pk BK130.out) hb)
  have n1_ := am (below_step (pb HB) hb)
  have n2_ := am (hbox)
  have n3_ := am ((pg hg HB : w.heap.size ≤ gb137))
  have n4_ := am ((pg hg HB : w.heap.size ≤ gb137))
  have n5_ := am ((pl hg (pk BK130.out) : gb130 ≠ gb137))
  have n6_ := am ((pl' hg (pk BK130.out) : gb137 ≠ gb130))
  clear BK130 HB
  have BK130 := n0_
  have HB := n1_
  have BK137 := n2_
  have GW137 := n3_
  have GE137 := n4_
  have NB130_137 := n5_
  have NB137_130 := n6_
  clear n0_ n1_ n2_ n3_ n4_ n5_ n6_ hb hbox hg
  refine hK.out _ _ ⟨ce BK130 0, ce BK130 1, ce BK130 2, ce BK130 3, ce BK130 4, ce BK130 5⟩ (fun hHeld => ?_)
  clear hK K
  refine nm ?_
  exact nj (hCont (gb137) _ ⟨hHeld, (pk BK130.out), (pk BK137.out), GW137.out, GE137.out, NB130_137.out, NB137_130.out, (pb HB)⟩)
 skip
 refine bx 3 #[.int .u64 0, .int .u64 0, .int .u64 0, .int .u64 0] 76 ?_
 intro gb137 hg w10 hbox hb
 have n0_ := am (blk_below (pk BK130.out) hb)
 have n1_ := am (below_step (pb HB) hb)
 have n2_ := am (hbox)
 have n3_ := am ((pg hg HB : w.heap.size ≤ gb137))
 have n4_ := am ((pg hg HB : w.heap.size ≤ gb137))
 have n5_ := am ((pl hg (pk BK130.out) : gb130 ≠ gb137))
 have n6_ := am ((pl' hg (pk BK130.out) : gb137 ≠ gb130))
 clear BK130 HB
 have BK130 := n0_
 have HB := n1_
 have BK137 := n2_
 have GW137 := n3_
 have GE137 := n4_
 have NB130_137 := n5_
 have NB137_130 := n6_
 clear n0_ n1_ n2_ n3_ n4_ n5_ n6_ hb hbox hg
 refine hK.out _ _ ⟨ce BK130 0, ce BK130 1, ce BK130 2, ce BK130 3, ce BK130 4, ce BK130 5⟩ (fun hHeld => ?_)
 clear hK K
 refine nm ?_
 refine on1 10 (fun K hK => ?_)
 refine gs Try.func47 #[.agg #[.int .u64 a0_0, .int .u64 a0_1, .int .u64 a0_2, .int .u64 a0_3], .int .u64 (Go.bits .or .u64 t132 (IntKind.u64.wrap ((IntKind.u64.wrap (a0_5)) * 72057594037927936)))] ?_
 with_reducible refine (sip_take.calls a0_0 a0_1 a0_2 a0_3 (Go.bits .or .u64 t132 (IntKind.u64.wrap ((IntKind.u64.wrap (a0_5)) * 72057594037927936))) t133 t134 t135 t136 _ A5.out).mono ?_
 rintro e w11 ⟨rfl, hb⟩
 refine ⟨_, rfl, ?_⟩
 replace BK130 := am (blk_below (pk BK130.out) hb)
 replace BK137 := am (blk_below (pk BK137.out) hb)
 replace HB := am (below_step (pb HB) hb)
 (try clear hb)
 (try clear hb2)
 (try clear hk)
 (try clear hi)
 refine hK.out _ _ ⟨ce BK130 0, ce BK130 1, ce BK130 2, ce BK130 3, ce BK130 4, ce BK130 5⟩ (fun hHeld => ?_)
 clear hK K
 refine nm ?_
 exact nj (hCont (gb137) _ ⟨hHeld, (pk BK130.out), (pk BK137.out), GW137.out, GE137.out, NB130_137.out, NB137_130.out, (pb HB)⟩)
def sip_Write.l0 : Nat → Int → Int → Int → Int → ByteArray → Int → Option (Int × Int × Int × Int × ByteArray × Int)
 | 0, _, _, _, _, _, _ => none
 | k + 1, x143000, x143001, x143002, x143003, x143004, x143005 => if (x143004.size : Int) ≥ 8 then (if 0 ≤ 8 then (if 8 ≤ (x143004.size : Int) then ((sip_number.f k (x143004.extract 0 8)).bind fun t145 => ((sip_take.f x143000 x143001 x143002 x143003 t145).bind fun bt146 => (sip_Write.l0 k bt146.1 bt146.2.1 bt146.2.2.1 bt146.2.2.2 (x143004.extract 8 x143004.size) x143005))) else (none)) else (none)) else (some (x143000, x143001, x143002, x143003, x143004, x143005))
def sip_Write.f (k : Nat) (a0_0 : Int) (a0_1 : Int) (a0_2 : Int) (a0_3 : Int) (a0_4 : ByteArray) (a0_5 : Int) (a1 : ByteArray) : Option (Int × Int × Int × Int × ByteArray × Int) := (sip_right.f a0_0 a0_1 a0_2 a0_3 a0_4 a0_5).bind fun t144 => (if t144 = true then (if a0_4.size + a1.size ≤ 9223372036854775807 then (sip_Write.l0 k a0_0 a0_1 a0_2 a0_3 (a0_4 ++ a1) (wrap64 (a0_5 + (a1.size : Int)))) else (none)) else (some (a0_0, a0_1, a0_2, a0_3, a0_4, a0_5)))
theorem sip_Write.mono_l : ∀ k, (∀ y0 y1 y2 y3 y4 y5, LeO (sip_Write.l0 k y0 y1 y2 y3 y4 y5) (sip_Write.l0 (k + 1) y0 y1 y2 y3 y4 y5))
 | 0 => fun _ _ _ _ _ _ r h => by simp [sip_Write.l0] at h
 | k + 1 => by
  have ih0 := sip_Write.mono_l k
  ·intro y0 y1 y2 y3 y4 y5
   unfold sip_Write.l0
   repeat' first
   | (with_reducible exact ih0 _ _ _ _ _ _)
   | (with_reducible exact sip_number.mono _ _)
   | (with_reducible exact LeO.refl _)
   | (with_reducible exact LeO.none _)
   | (with_reducible refine LeO.ite ?_ ?_)
   | (with_reducible refine LeO.bind ?_ (fun _ => ?_))
theorem sip_Write.mono : ∀ a0 a1 a2 a3 a4 a5 a6 k, LeO (sip_Write.f k a0 a1 a2 a3 a4 a5 a6) (sip_Write.f (k + 1) a0 a1 a2 a3 a4 a5 a6) := by
 intro a0 a1 a2 a3 a4 a5 a6 k
 have ih0 := sip_Write.mono_l k
 unfold sip_Write.f
 repeat' first
   | (with_reducible exact ih0 _ _ _ _ _ _)
   | (with_reducible exact sip_number.mono _ _)
   | (with_reducible exact LeO.refl _)
   | (with_reducible exact LeO.none _)
   | (with_reducible refine LeO.ite ?_ ?_)
   | (with_reducible refine LeO.bind ?_ (fun _ => ?_))
def sip_Write.T6 : Bool × List (List Nat × List Nat) := (true, [([], []), ([0], [0]), ([], []), ([2], [2]), ([3], [3]), ([4], [4]), ([1, 5, 5], [1, 5]), ([0, 1, 2, 3, 4, 5, 6], []), ([7, 6, 6, 0, 1, 2, 3, 4, 5, 6], [6, 7])])
def sip_Write.B6 : List Nat := [0, 1, 0, 4, 12, 28, 63, 127, 255]
theorem sip_Write.tab6 : rtab .any (opsOf Try.f43 6) = sip_Write.T6 := by kernel_rfl
theorem sip_Write.bits6 : waitsOk sip_Write.T6.2 sip_Write.B6 = true := by kernel_rfl
set_option maxHeartbeats 8000000 in
set_option maxRecDepth 100000 in
theorem sip_Write.calls (k : Nat) (a0_0 : Int) (a0_1 : Int) (a0_2 : Int) (a0_3 : Int) (a0_4 : ByteArray) (a0_5 : Int) (a1 : ByteArray) (r1 : Int) (r2 : Int) (r3 : Int) (r4 : Int) (r5 : ByteArray) (r6 : Int) (w : World) (h : sip_Write.f k a0_0 a0_1 a0_2 a0_3 a0_4 a0_5 a1 = some (r1, r2, r3, r4, r5, r6)) :
  Calls Try.prog 43 #[.agg #[.int .u64 a0_0, .int .u64 a0_1, .int .u64 a0_2, .int .u64 a0_3, .string a0_4, .int .i64 a0_5], .string a1] w fun e w' => e = .returned (.agg #[.int .u64 r1, .int .u64 r2, .int .u64 r3, .int .u64 r4, .string r5, .int .i64 r6]) ∧ Below w.heap.size w w' := by
 have hu80 := Try.underlying80
 have hu76 := Try.underlying76
 have HB := am (Below.refl w.heap.size w)
 have H : ((sip_right.f a0_0 a0_1 a0_2 a0_3 a0_4 a0_5).bind fun t144 => (if t144 = true then (if a0_4.size + a1.size ≤ 9223372036854775807 then (sip_Write.l0 k a0_0 a0_1 a0_2 a0_3 (a0_4 ++ a1) (wrap64 (a0_5 + (a1.size : Int)))) else (none)) else (some (a0_0, a0_1, a0_2, a0_3, a0_4, a0_5)))) = some (r1, r2, r3, r4, r5, r6) := h
 clear h
 replace H := Option.bind_eq_some_iff.mp H
 obtain ⟨t144, A30, H⟩ := H
 replace H : (if t144 = true then (if a0_4.size + a1.size ≤ 9223372036854775807 then (sip_Write.l0 k a0_0 a0_1 a0_2 a0_3 (a0_4 ++ a1) (wrap64 (a0_5 + (a1.size : Int)))) else (none)) else (some (a0_0, a0_1, a0_2, a0_3, a0_4, a0_5))) = some (r1, r2, r3, r4, r5, r6) := H
 have A3 := am A30
 clear A30
 by_cases c4 : t144 = true
 rotate_left
 ·replace c4 := Bool.eq_false_iff.mpr c4
  subst c4
  have H1 : (some (a0_0, a0_1, a0_2, a0_3, a0_4, a0_5)) = some (r1, r2, r3, r4, r5, r6) := by rw [if_neg (show ¬ (false = true) by decide)] at H; exact H
  clear H
  have H := H1
  clear H1
  simp only [Option.some.injEq, Prod.mk.injEq] at H
  obtain ⟨rfl, rfl, rfl, rfl, rfl, rfl⟩ := H
  go_enter Try.func43, Try.ntmps43
  go_wp2_with (first | ((with_reducible refine gate_dst (N := 2) rfl ?_); refine be 2 #[.int .u64 a0_0, .int .u64 a0_1, .int .u64 a0_2, .int .u64 a0_3, .string a0_4, .int .i64 a0_5] 80 ?_; intro gb142 hg w30 hbox hb; have n0_ := am (below_step (pb HB) hb); have n1_ := am (hbox); have n2_ := am ((pg hg HB : w.heap.size ≤ gb142)); have n3_ := am ((pg hg HB : w.heap.size ≤ gb142)); clear HB; have HB := n0_; have BK142 := n1_; have GW142 := n2_; have GE142 := n3_; clear n0_ n1_ n2_ n3_; clear hb hbox hg) | ((with_reducible refine gate_dst (N := 4) rfl ?_); refine be 4 #[.int .u64 0, .int .u64 0, .int .u64 0, .int .u64 0, .string (⟨#[]⟩ : ByteArray), .int .i64 0] 80 ?_; intro gb143 hg w31 hbox hb; have n0_ := am (blk_below (pk BK142.out) hb); have n1_ := am (below_step (pb HB) hb); have n2_ := am (hbox); have n3_ := am ((pg hg HB : w.heap.size ≤ gb143)); have n4_ := am ((pg hg HB : w.heap.size ≤ gb143)); have n5_ := am ((pl hg (pk BK142.out) : gb142 ≠ gb143)); have n6_ := am ((pl' hg (pk BK142.out) : gb143 ≠ gb142)); clear BK142; clear HB; have BK142 := n0_; have HB := n1_; have BK143 := n2_; have GW143 := n3_; have GE143 := n4_; have NB142_143 := n5_; have NB143_142 := n6_; clear n0_ n1_ n2_ n3_ n4_ n5_ n6_; clear hb hbox hg; have hnb32 := NB142_143.out; have hnc32 := NB143_142.out; have hcz33_0 := ce BK142 0; have hcz33_1 := ce BK142 1; have hcz33_2 := ce BK142 2; have hcz33_3 := ce BK142 3; have hcz33_4 := ce BK142 4; have hcz33_5 := ce BK142 5; have hfz33_0 := fz BK142 0; have hfz33_1 := fz BK142 1; have hfz33_2 := fz BK142 2; have hfz33_3 := fz BK142 3; have hfz33_4 := fz BK142 4; have hfz33_5 := fz BK142 5) | ((with_reducible refine gate_callee (f := 46) rfl ?_); refine gl (some 6) Try.func46 #[.agg #[.int .u64 a0_0, .int .u64 a0_1, .int .u64 a0_2, .int .u64 a0_3, .string a0_4, .int .i64 a0_5]] ?_; (with_reducible refine (sip_right.calls a0_0 a0_1 a0_2 a0_3 a0_4 a0_5 false _ A3.out).mono ?_); rintro e w34 ⟨rfl, hb⟩; refine ⟨_, rfl, ?_⟩; replace BK142 := am (blk_below (pk BK142.out) hb); replace BK143 := am (blk_below (pk BK143.out) hb); replace HB := am (below_step (pb HB) hb); (try clear hb); (try clear hb2); (try clear hk); (try clear hi); have hcz35_0 := ce BK142 0; have hcz35_1 := ce BK142 1; have hcz35_2 := ce BK142 2; have hcz35_3 := ce BK142 3; have hcz35_4 := ce BK142 4; have hcz35_5 := ce BK142 5; have hfz35_0 := fz BK142 0; have hfz35_1 := fz BK142 1; have hfz35_2 := fz BK142 2; have hfz35_3 := fz BK142 3; have hfz35_4 := fz BK142 4; have hfz35_5 := fz BK142 5; have hcz36_0 := ce BK143 0; have hcz36_1 := ce BK143 1; have hcz36_2 := ce BK143 2; have hcz36_3 := ce BK143 3; have hcz36_4 := ce BK143 4; have hcz36_5 := ce BK143 5; have hfz36_0 := fz BK143 0; have hfz36_1 := fz BK143 1; have hfz36_2 := fz BK143 2; have hfz36_3 := fz BK143 3; have hfz36_4 := fz BK143 4; have hfz36_5 := fz BK143 5))
  refine bodyPost_ret (results_cell_row rfl _ _ gb143 80 #[.int .u64 a0_0, .int .u64 a0_1, .int .u64 a0_2, .int .u64 a0_3, .string a0_4, .int .i64 a0_5] (0, 0) _ rfl (by refine pk ?_; refine blk_put (cs := #[.int .u64 a0_0, .int .u64 a0_1, .int .u64 a0_2, .int .u64 a0_3, .string a0_4, .int .i64 0]) ?_ 5 _ rfl; refine pk ?_; refine blk_put (cs := #[.int .u64 a0_0, .int .u64 a0_1, .int .u64 a0_2, .int .u64 a0_3, .string (⟨#[]⟩ : ByteArray), .int .i64 0]) ?_ 4 _ rfl; refine pk ?_; refine blk_put (cs := #[.int .u64 a0_0, .int .u64 a0_1, .int .u64 a0_2, .int .u64 0, .string (⟨#[]⟩ : ByteArray), .int .i64 0]) ?_ 3 _ rfl; refine pk ?_; refine blk_put (cs := #[.int .u64 a0_0, .int .u64 a0_1, .int .u64 0, .int .u64 0, .string (⟨#[]⟩ : ByteArray), .int .i64 0]) ?_ 2 _ rfl; refine pk ?_; refine blk_put (cs := #[.int .u64 a0_0, .int .u64 0, .int .u64 0, .int .u64 0, .string (⟨#[]⟩ : ByteArray), .int .i64 0]) ?_ 1 _ rfl; refine pk ?_; refine blk_put (cs := #[.int .u64 0, .int .u64 0, .int .u64 0, .int .u64 0, .string (⟨#[]⟩ : ByteArray), .int .i64 0]) ?_ 0 _ rfl; refine pk ?_; exact BK143.out) Try.underlying80 rfl (by kernel_rfl)) rfl ?_
  exact ⟨by first | rfl | (simp [errW_none, errW_some] <;> rfl) | (simp [*, errW_none, errW_some] <;> rfl), pb HB⟩
 subst c4
 have H1 : (if a0_4.size + a1.size ≤ 9223372036854775807 then (sip_Write.l0 k a0_0 a0_1 a0_2 a0_3 (a0_4 ++ a1) (wrap64 (a0_5 + (a1.size : Int)))) else (none)) = some (r1, r2, r3, r4, r5, r6) := by rw [if_pos rfl] at H; exact H
 clear H
 have H := H1
 clear H1
 by_cases c5 : a0_4.size + a1.size ≤ 9223372036854775807
 rotate_left
 ·rw [if_neg c5] at H
  exact absurd H (by simp)
 rw [if_pos c5] at H
 have c5b0 := eq_true c5
 have c5b1 : decide (a0_4.size + a1.size ≤ 9223372036854775807) = true := decide_eq_true c5
 try have c5b2 : (9223372036854775807 < a0_4.size + a1.size) = False := eq_false (Nat.not_lt.2 c5)
 have H' := am H
 clear H
 go_enter Try.func43, Try.ntmps43
 go_wp2_with (first | ((with_reducible refine gate_dst (N := 2) rfl ?_); refine be 2 #[.int .u64 a0_0, .int .u64 a0_1, .int .u64 a0_2, .int .u64 a0_3, .string a0_4, .int .i64 a0_5] 80 ?_; intro gb142 hg w6 hbox hb; have n0_ := am (below_step (pb HB) hb); have n1_ := am (hbox); have n2_ := am ((pg hg HB : w.heap.size ≤ gb142)); have n3_ := am ((pg hg HB : w.heap.size ≤ gb142)); clear HB; have HB := n0_; have BK142 := n1_; have GW142 := n2_; have GE142 := n3_; clear n0_ n1_ n2_ n3_; clear hb hbox hg) | ((with_reducible refine gate_dst (N := 4) rfl ?_); refine be 4 #[.int .u64 0, .int .u64 0, .int .u64 0, .int .u64 0, .string (⟨#[]⟩ : ByteArray), .int .i64 0] 80 ?_; intro gb143 hg w7 hbox hb; have n0_ := am (blk_below (pk BK142.out) hb); have n1_ := am (below_step (pb HB) hb); have n2_ := am (hbox); have n3_ := am ((pg hg HB : w.heap.size ≤ gb143)); have n4_ := am ((pg hg HB : w.heap.size ≤ gb143)); have n5_ := am ((pl hg (pk BK142.out) : gb142 ≠ gb143)); have n6_ := am ((pl' hg (pk BK142.out) : gb143 ≠ gb142)); clear BK142; clear HB; have BK142 := n0_; have HB := n1_; have BK143 := n2_; have GW143 := n3_; have GE143 := n4_; have NB142_143 := n5_; have NB143_142 := n6_; clear n0_ n1_ n2_ n3_ n4_ n5_ n6_; clear hb hbox hg; have hnb8 := NB142_143.out; have hnc8 := NB143_142.out; have hcz9_0 := ce BK142 0; have hcz9_1 := ce BK142 1; have hcz9_2 := ce BK142 2; have hcz9_3 := ce BK142 3; have hcz9_4 := ce BK142 4; have hcz9_5 := ce BK142 5; have hfz9_0 := fz BK142 0; have hfz9_1 := fz BK142 1; have hfz9_2 := fz BK142 2; have hfz9_3 := fz BK142 3; have hfz9_4 := fz BK142 4; have hfz9_5 := fz BK142 5) | ((with_reducible refine gate_callee (f := 46) rfl ?_); refine gl (some 6) Try.func46 #[.agg #[.int .u64 a0_0, .int .u64 a0_1, .int .u64 a0_2, .int .u64 a0_3, .string a0_4, .int .i64 a0_5]] ?_; (with_reducible refine (sip_right.calls a0_0 a0_1 a0_2 a0_3 a0_4 a0_5 true _ A3.out).mono ?_); rintro e w10 ⟨rfl, hb⟩; refine ⟨_, rfl, ?_⟩; replace BK142 := am (blk_below (pk BK142.out) hb); replace BK143 := am (blk_below (pk BK143.out) hb); replace HB := am (below_step (pb HB) hb); (try clear hb); (try clear hb2); (try clear hk); (try clear hi); have hcz11_0 := ce BK142 0; have hcz11_1 := ce BK142 1; have hcz11_2 := ce BK142 2; have hcz11_3 := ce BK142 3; have hcz11_4 := ce BK142 4; have hcz11_5 := ce BK142 5; have hfz11_0 := fz BK142 0; have hfz11_1 := fz BK142 1; have hfz11_2 := fz BK142 2; have hfz11_3 := fz BK142 3; have hfz11_4 := fz BK142 4; have hfz11_5 := fz BK142 5))
 go_loopg [] k (fun kq w' => ∃ (x143000_1 : Int) (x143001_1 : Int) (x143002_1 : Int) (x143003_1 : Int) (x143004_1 : ByteArray), Aside0 (sip_Write.l0 kq x143000_1 x143001_1 x143002_1 x143003_1 x143004_1 (wrap64 (a0_5 + (a1.size : Int))) = some (r1, r2, r3, r4, r5, r6)) ∧ Aside0 (kq ≤ k) ∧ Aside0 (w'.heap[gb142]? = some (.cells #[.int .u64 x143000_1, .int .u64 x143001_1, .int .u64 x143002_1, .int .u64 x143003_1, .string x143004_1, .int .i64 (wrap64 (a0_5 + (a1.size : Int)))] 80 (0, 0))) ∧ Aside0 (w'.heap[gb143]? = some (.cells #[.int .u64 0, .int .u64 0, .int .u64 0, .int .u64 0, .string (⟨#[]⟩ : ByteArray), .int .i64 0] 80 (0, 0))) ∧ Aside0 (Below w.heap.size w w'))
 case atStart => exact ⟨(a0_0), (a0_1), (a0_2), (a0_3), (a0_4 ++ a1), H', ⟨Nat.le_refl _⟩, ⟨by refine pk ?_; refine blk_put (cs := #[.int .u64 a0_0, .int .u64 a0_1, .int .u64 a0_2, .int .u64 a0_3, .string a0_4, .int .i64 (wrap64 (a0_5 + (a1.size : Int)))]) ?_ 4 _ rfl; refine pk ?_; refine blk_put (cs := #[.int .u64 a0_0, .int .u64 a0_1, .int .u64 a0_2, .int .u64 a0_3, .string a0_4, .int .i64 a0_5]) ?_ 5 _ rfl; refine pk ?_; exact BK142.out⟩, ⟨by refine pk ?_; refine blk_far ?_ NB143_142.out _; refine pk ?_; refine blk_far ?_ NB143_142.out _; refine pk ?_; exact BK143.out⟩, ⟨pb HB⟩⟩
 case round =>
  clear H'
  try clear p2
  try clear c4
  try clear c5
  try clear c5b0
  try clear c5b1
  try clear c5b2
  try clear p6
  try clear c8
  try clear hcz11_0 hcz11_1 hcz11_2 hcz11_3 hcz11_4 hcz11_5
  try clear hcz9_0 hcz9_1 hcz9_2 hcz9_3 hcz9_4 hcz9_5
  try clear hfz11_0 hfz11_1 hfz11_2 hfz11_3 hfz11_4 hfz11_5
  try clear hfz9_0 hfz9_1 hfz9_2 hfz9_3 hfz9_4 hfz9_5
  obtain ⟨x143000_1, x143001_1, x143002_1, x143003_1, x143004_1, HA, HK1, BK142, BK143, HB⟩ := hrel
  cases gk with
  | zero => exact absurd HA.out (by simp [sip_Write.l0])
  | succ k1 =>
   have H := HA.out
   clear HA
   simp only [sip_Write.l0] at H
   by_cases c12 : (x143004_1.size : Int) ≥ 8
   ·rw [if_pos c12] at H
    have c12b0 : decide (8 ≤ (x143004_1.size : Int)) = true := decide_eq_true c12
    have c12b1 : decide (8 ≤ x143004_1.size) = true := decide_eq_true (by omega)
    clear c12
    by_cases c13 : 0 ≤ 8
    ·rw [if_pos c13] at H
     have c13b0 := eq_true c13
     have c13b1 : decide (0 ≤ 8) = true := decide_eq_true c13
     clear c13
     by_cases c14 : 8 ≤ (x143004_1.size : Int)
     ·rw [if_pos c14] at H
      have c14b0 := eq_true c14
      have c14b1 : decide (8 ≤ (x143004_1.size : Int)) = true := decide_eq_true c14
      clear c14
      replace H := Option.bind_eq_some_iff.mp H
      obtain ⟨t145, A150, H⟩ := H
      replace H : ((sip_take.f x143000_1 x143001_1 x143002_1 x143003_1 t145).bind fun bt146 => (sip_Write.l0 k1 bt146.1 bt146.2.1 bt146.2.2.1 bt146.2.2.2 (x143004_1.extract 8 x143004_1.size) (wrap64 (a0_5 + (a1.size : Int))))) = some (r1, r2, r3, r4, r5, r6) := H
      have A15 := am A150
      clear A150
      replace H := Option.bind_eq_some_iff.mp H
      obtain ⟨⟨t146, t147, t148, t149⟩, A160, H⟩ := H
      replace H : (sip_Write.l0 k1 t146 t147 t148 t149 (x143004_1.extract 8 x143004_1.size) (wrap64 (a0_5 + (a1.size : Int)))) = some (r1, r2, r3, r4, r5, r6) := H
      have A16 := am A160
      clear A160
      have c17b0 := eq_true (of_decide_eq_true (by first | (with_reducible assumption) | assumption) : 8 ≤ (x143004_1.size : Int))
      have H' := am H
      clear H
      have hnb18 := NB142_143.out
      have hnc18 := NB143_142.out
      have hcz19_0 := ce BK142 0
      have hcz19_1 := ce BK142 1
      have hcz19_2 := ce BK142 2
      have hcz19_3 := ce BK142 3
      have hcz19_4 := ce BK142 4
      have hcz19_5 : wr.cell? ⟨gb142, 5, none⟩ = some (.int .i64 (wrap64 (a0_5 + (a1.size : Int)))) := ce BK142 5
      have hfz19_0 := fz BK142 0
      have hfz19_1 := fz BK142 1
      have hfz19_2 := fz BK142 2
      have hfz19_3 := fz BK142 3
      have hfz19_4 := fz BK142 4
      have hfz19_5 := fz BK142 5
      try go_wp2
      replace BK142 := am (blk_drew BK142.out)
      replace BK143 := am (blk_drew BK143.out)
      replace HB := am (below_drew1 HB.out)
      refine start_ (n := 9) (S := fun w' => w'.cell? ⟨gb142, 0, none⟩ = some (.int .u64 x143000_1) ∧ w'.cell? ⟨gb142, 1, none⟩ = some (.int .u64 x143001_1) ∧ w'.cell? ⟨gb142, 2, none⟩ = some (.int .u64 x143002_1) ∧ w'.cell? ⟨gb142, 3, none⟩ = some (.int .u64 x143003_1) ∧ w'.cell? ⟨gb142, 4, none⟩ = some (.string x143004_1) ∧ w'.cell? ⟨gb142, 5, none⟩ = some (.int .i64 (wrap64 (a0_5 + (a1.size : Int))))) (ds := [8]) #[false, false, false, false, false, false, false, false, false] (by kernel_rfl) rfl rfl ⟨ce BK142 0, ce BK142 1, ce BK142 2, ce BK142 3, ce BK142 4, ce BK142 5⟩ (fun hHeld => ?_); refine with_tabW sip_Write.tab6 sip_Write.bits6 (fun HT_ HW_ => ?_)
      generalize wr.drew = w20 at BK142 BK143 HB hHeld ⊢
      refine pu 0 ?_
      refine pu 2 ?_
      refine ta 1 hHeld ?_
      refine ta 3 hHeld ?_
      refine pu 4 ?_
      refine on1 5 (fun K hK => ?_)
      refine gs Try.func48 #[.string (x143004_1.extract 0 8)] ?_
      with_reducible refine (sip_number.calls k1 (x143004_1.extract 0 8) t145 _ A15.out).mono ?_
      rintro e w' ⟨rfl, ⟨nd, rfl⟩⟩
      refine ⟨_, rfl, ?_⟩
      refine hK.out _ _ ⟨ce BK142 0, ce BK142 1, ce BK142 2, ce BK142 3, ce BK142 4, ce BK142 5⟩ (fun hHeld => ?_)
      clear hK K
      refine nm ?_
      refine on1 6 (fun K hK => ?_)
      refine gs Try.func47 #[.agg #[.int .u64 x143000_1, .int .u64 x143001_1, .int .u64 x143002_1, .int .u64 x143003_1], .int .u64 t145] ?_
      with_reducible refine (sip_take.calls x143000_1 x143001_1 x143002_1 x143003_1 t145 t146 t147 t148 t149 _ A16.out).mono ?_
      rintro e w21 ⟨rfl, hb⟩
      refine ⟨_, rfl, ?_⟩
      replace BK142 := am (blk_below (pk BK142.out) hb)
      replace BK143 := am (blk_below (pk BK143.out) hb)
      replace HB := am (below_step (pb HB) hb)
      (try clear hb)
      (try clear hb2)
      (try clear hk)
      (try clear hi)
      refine hK.out _ _ ⟨ce BK142 0, ce BK142 1, ce BK142 2, ce BK142 3, ce BK142 4, ce BK142 5⟩ (fun hHeld => ?_)
      clear hK K
      refine nm ?_
      refine pu 7 ?_
      refine last_ (i := 8) (N := none) #[true, true, true, true, true, true, true, true, true] rfl rfl (one_of HT_.out (by kernel_rfl)) (by decide) (fun K hK => ?_)
      have hs22 : w21.cell? ⟨gb142, 0, none⟩ = some (.int .u64 x143000_1) := ce BK142 0
      have hfs22 := blk_frozen BK142.out 0
      have hns22_1 := NB143_142.out
      have hms22_1 := NB142_143.out
      have hs23 : w21.cell? ⟨gb142, 1, none⟩ = some (.int .u64 x143001_1) := ce BK142 1
      have hfs23 := blk_frozen BK142.out 1
      have hns23_1 := NB143_142.out
      have hms23_1 := NB142_143.out
      have hs24 : w21.cell? ⟨gb142, 2, none⟩ = some (.int .u64 x143002_1) := ce BK142 2
      have hfs24 := blk_frozen BK142.out 2
      have hns24_1 := NB143_142.out
      have hms24_1 := NB142_143.out
      have hs25 : w21.cell? ⟨gb142, 3, none⟩ = some (.int .u64 x143003_1) := ce BK142 3
      have hfs25 := blk_frozen BK142.out 3
      have hns25_1 := NB143_142.out
      have hms25_1 := NB142_143.out
      refine skip_ (w1 := ?_) (by rfl) rfl ?_ ?_
      rotate_left
      ·go_simp
       rfl
      refine hK.out _ _ ?_
      clear hK K
      refine done_ (done_of HT_.out (by kernel_rfl)) ?_
      have hcz26_0 := ce BK142 0
      have hcz26_1 := ce BK142 1
      have hcz26_2 := ce BK142 2
      have hcz26_3 := ce BK142 3
      have hcz26_4 := ce BK142 4
      have hcz26_5 : w21.cell? ⟨gb142, 5, none⟩ = some (.int .i64 (wrap64 (a0_5 + (a1.size : Int)))) := ce BK142 5
      have hfz26_0 := fz BK142 0
      have hfz26_1 := fz BK142 1
      have hfz26_2 := fz BK142 2
      have hfz26_3 := fz BK142 3
      have hfz26_4 := fz BK142 4
      have hfz26_5 := fz BK142 5
      try go_wp2
      go_roundg k1
      case measure => have := HK1.out; omega
      case rel => exact ⟨(t146), (t147), (t148), (t149), (x143004_1.extract 8 x143004_1.size), H', ⟨by have := HK1.out; omega⟩, ⟨by refine pk ?_; refine blk_put (cs := #[.int .u64 t146, .int .u64 t147, .int .u64 t148, .int .u64 t149, .string x143004_1, .int .i64 (wrap64 (a0_5 + (a1.size : Int)))]) ?_ 4 _ rfl; refine pk ?_; refine blk_put (cs := #[.int .u64 t146, .int .u64 t147, .int .u64 t148, .int .u64 x143003_1, .string x143004_1, .int .i64 (wrap64 (a0_5 + (a1.size : Int)))]) ?_ 3 _ rfl; refine pk ?_; refine blk_put (cs := #[.int .u64 t146, .int .u64 t147, .int .u64 x143002_1, .int .u64 x143003_1, .string x143004_1, .int .i64 (wrap64 (a0_5 + (a1.size : Int)))]) ?_ 2 _ rfl; refine pk ?_; refine blk_put (cs := #[.int .u64 t146, .int .u64 x143001_1, .int .u64 x143002_1, .int .u64 x143003_1, .string x143004_1, .int .i64 (wrap64 (a0_5 + (a1.size : Int)))]) ?_ 1 _ rfl; refine pk ?_; refine blk_put (cs := #[.int .u64 x143000_1, .int .u64 x143001_1, .int .u64 x143002_1, .int .u64 x143003_1, .string x143004_1, .int .i64 (wrap64 (a0_5 + (a1.size : Int)))]) ?_ 0 _ rfl; refine pk ?_; exact BK142.out⟩, ⟨by refine pk ?_; refine blk_far ?_ NB143_142.out _; refine pk ?_; refine blk_far ?_ NB143_142.out _; refine pk ?_; refine blk_far ?_ NB143_142.out _; refine pk ?_; refine blk_far ?_ NB143_142.out _; refine pk ?_; refine blk_far ?_ NB143_142.out _; refine pk ?_; exact BK143.out⟩, ⟨pb HB⟩⟩
     ·rw [if_neg c14] at H
      exact absurd H (by simp)
    ·rw [if_neg c13] at H
     exact absurd H (by simp)
   ·rw [if_neg c12] at H
    have c12b0 : decide (8 ≤ (x143004_1.size : Int)) = false := decide_eq_false c12
    have c12b1 : decide (8 ≤ x143004_1.size) = false := decide_eq_false (by omega)
    clear c12
    simp only [Option.some.injEq, Prod.mk.injEq] at H
    obtain ⟨rfl, rfl, rfl, rfl, rfl, rfl⟩ := H
    have hnb27 := NB142_143.out
    have hnc27 := NB143_142.out
    have hcz28_0 := ce BK142 0
    have hcz28_1 := ce BK142 1
    have hcz28_2 := ce BK142 2
    have hcz28_3 := ce BK142 3
    have hcz28_4 := ce BK142 4
    have hcz28_5 : wr.cell? ⟨gb142, 5, none⟩ = some (.int .i64 (wrap64 (a0_5 + (a1.size : Int)))) := ce BK142 5
    have hfz28_0 := fz BK142 0
    have hfz28_1 := fz BK142 1
    have hfz28_2 := fz BK142 2
    have hfz28_3 := fz BK142 3
    have hfz28_4 := fz BK142 4
    have hfz28_5 := fz BK142 5
    have hcz29_0 := ce BK143 0
    have hcz29_1 := ce BK143 1
    have hcz29_2 := ce BK143 2
    have hcz29_3 := ce BK143 3
    have hcz29_4 := ce BK143 4
    have hcz29_5 := ce BK143 5
    have hfz29_0 := fz BK143 0
    have hfz29_1 := fz BK143 1
    have hfz29_2 := fz BK143 2
    have hfz29_3 := fz BK143 3
    have hfz29_4 := fz BK143 4
    have hfz29_5 := fz BK143 5
    go_wp2
    refine bodyPost_ret (results_cell_row rfl _ _ gb143 80 #[.int .u64 x143000_1, .int .u64 x143001_1, .int .u64 x143002_1, .int .u64 x143003_1, .string x143004_1, .int .i64 (wrap64 (a0_5 + (a1.size : Int)))] (0, 0) _ rfl (by refine pk ?_; refine blk_put (cs := #[.int .u64 x143000_1, .int .u64 x143001_1, .int .u64 x143002_1, .int .u64 x143003_1, .string x143004_1, .int .i64 0]) ?_ 5 _ rfl; refine pk ?_; refine blk_put (cs := #[.int .u64 x143000_1, .int .u64 x143001_1, .int .u64 x143002_1, .int .u64 x143003_1, .string (⟨#[]⟩ : ByteArray), .int .i64 0]) ?_ 4 _ rfl; refine pk ?_; refine blk_put (cs := #[.int .u64 x143000_1, .int .u64 x143001_1, .int .u64 x143002_1, .int .u64 0, .string (⟨#[]⟩ : ByteArray), .int .i64 0]) ?_ 3 _ rfl; refine pk ?_; refine blk_put (cs := #[.int .u64 x143000_1, .int .u64 x143001_1, .int .u64 0, .int .u64 0, .string (⟨#[]⟩ : ByteArray), .int .i64 0]) ?_ 2 _ rfl; refine pk ?_; refine blk_put (cs := #[.int .u64 x143000_1, .int .u64 0, .int .u64 0, .int .u64 0, .string (⟨#[]⟩ : ByteArray), .int .i64 0]) ?_ 1 _ rfl; refine pk ?_; refine blk_put (cs := #[.int .u64 0, .int .u64 0, .int .u64 0, .int .u64 0, .string (⟨#[]⟩ : ByteArray), .int .i64 0]) ?_ 0 _ rfl; refine pk ?_; exact BK143.out) Try.underlying80 rfl (by kernel_rfl)) rfl ?_
    exact ⟨by first | rfl | (simp [errW_none, errW_some] <;> rfl) | (simp [*, errW_none, errW_some] <;> rfl), pb HB⟩
def sip_New.f (a0_0 : Int) (a0_1 : Int) : Option (Int × Int × Int × Int × ByteArray × Int) := some (Go.bits .xor .u64 a0_0 8317987319222330741, Go.bits .xor .u64 a0_1 7237128888997146477, Go.bits .xor .u64 a0_0 7816392313619706465, Go.bits .xor .u64 a0_1 8387220255154660723, (⟨#[]⟩ : ByteArray), 0)
set_option maxHeartbeats 8000000 in
set_option maxRecDepth 100000 in
theorem sip_New.calls (a0_0 : Int) (a0_1 : Int) (r1 : Int) (r2 : Int) (r3 : Int) (r4 : Int) (r5 : ByteArray) (r6 : Int) (w : World) (h : sip_New.f a0_0 a0_1 = some (r1, r2, r3, r4, r5, r6)) :
  Calls Try.prog 44 #[.agg #[.int .u64 a0_0, .int .u64 a0_1]] w fun e w' => e = .returned (.agg #[.int .u64 r1, .int .u64 r2, .int .u64 r3, .int .u64 r4, .string r5, .int .i64 r6]) ∧ Below w.heap.size w w' := by
 have hu24 := Try.underlying24
 have hu80 := Try.underlying80
 have hu76 := Try.underlying76
 have HB := am (Below.refl w.heap.size w)
 have H : (some (Go.bits .xor .u64 a0_0 8317987319222330741, Go.bits .xor .u64 a0_1 7237128888997146477, Go.bits .xor .u64 a0_0 7816392313619706465, Go.bits .xor .u64 a0_1 8387220255154660723, (⟨#[]⟩ : ByteArray), 0)) = some (r1, r2, r3, r4, r5, r6) := h
 clear h
 simp only [Option.some.injEq, Prod.mk.injEq] at H
 obtain ⟨rfl, rfl, rfl, rfl, rfl, rfl⟩ := H
 go_enter Try.func44, Try.ntmps44
 go_wp2_with (first | ((with_reducible refine gate_dst (N := 1) rfl ?_); refine be 1 #[.int .u64 a0_0, .int .u64 a0_1] 24 ?_; intro gb150 hg w2 hbox hb; have n0_ := am (below_step (pb HB) hb); have n1_ := am (hbox); have n2_ := am ((pg hg HB : w.heap.size ≤ gb150)); have n3_ := am ((pg hg HB : w.heap.size ≤ gb150)); clear HB; have HB := n0_; have BK150 := n1_; have GW150 := n2_; have GE150 := n3_; clear n0_ n1_ n2_ n3_; clear hb hbox hg) | ((with_reducible refine gate_dst (N := 2) rfl ?_); refine be 2 #[.int .u64 0, .int .u64 0, .int .u64 0, .int .u64 0, .string (⟨#[]⟩ : ByteArray), .int .i64 0] 80 ?_; intro gb151 hg w3 hbox hb; have n0_ := am (blk_below (pk BK150.out) hb); have n1_ := am (below_step (pb HB) hb); have n2_ := am (hbox); have n3_ := am ((pg hg HB : w.heap.size ≤ gb151)); have n4_ := am ((pg hg HB : w.heap.size ≤ gb151)); have n5_ := am ((pl hg (pk BK150.out) : gb150 ≠ gb151)); have n6_ := am ((pl' hg (pk BK150.out) : gb151 ≠ gb150)); clear BK150; clear HB; have BK150 := n0_; have HB := n1_; have BK151 := n2_; have GW151 := n3_; have GE151 := n4_; have NB150_151 := n5_; have NB151_150 := n6_; clear n0_ n1_ n2_ n3_ n4_ n5_ n6_; clear hb hbox hg; have hnb4 := NB150_151.out; have hnc4 := NB151_150.out; have hcz5_0 := ce BK150 0; have hcz5_1 := ce BK150 1; have hfz5_0 := fz BK150 0; have hfz5_1 := fz BK150 1; have hcz6_0 := ce BK151 0; have hcz6_1 := ce BK151 1; have hcz6_2 := ce BK151 2; have hcz6_3 := ce BK151 3; have hcz6_4 := ce BK151 4; have hcz6_5 := ce BK151 5; have hfz6_0 := fz BK151 0; have hfz6_1 := fz BK151 1; have hfz6_2 := fz BK151 2; have hfz6_3 := fz BK151 3; have hfz6_4 := fz BK151 4; have hfz6_5 := fz BK151 5))
 refine bodyPost_ret (results_cell_row rfl _ _ gb151 80 #[.int .u64 (Go.bits .xor .u64 a0_0 8317987319222330741), .int .u64 (Go.bits .xor .u64 a0_1 7237128888997146477), .int .u64 (Go.bits .xor .u64 a0_0 7816392313619706465), .int .u64 (Go.bits .xor .u64 a0_1 8387220255154660723), .string (⟨#[]⟩ : ByteArray), .int .i64 0] (0, 0) _ rfl (by refine pk ?_; refine blk_put (cs := #[.int .u64 (Go.bits .xor .u64 a0_0 8317987319222330741), .int .u64 (Go.bits .xor .u64 a0_1 7237128888997146477), .int .u64 (Go.bits .xor .u64 a0_0 7816392313619706465), .int .u64 (Go.bits .xor .u64 a0_1 8387220255154660723), .string (⟨#[]⟩ : ByteArray), .int .i64 0]) ?_ 5 _ rfl; refine pk ?_; refine blk_put (cs := #[.int .u64 (Go.bits .xor .u64 a0_0 8317987319222330741), .int .u64 (Go.bits .xor .u64 a0_1 7237128888997146477), .int .u64 (Go.bits .xor .u64 a0_0 7816392313619706465), .int .u64 (Go.bits .xor .u64 a0_1 8387220255154660723), .string (⟨#[]⟩ : ByteArray), .int .i64 0]) ?_ 4 _ rfl; refine pk ?_; refine blk_put (cs := #[.int .u64 (Go.bits .xor .u64 a0_0 8317987319222330741), .int .u64 (Go.bits .xor .u64 a0_1 7237128888997146477), .int .u64 (Go.bits .xor .u64 a0_0 7816392313619706465), .int .u64 0, .string (⟨#[]⟩ : ByteArray), .int .i64 0]) ?_ 3 _ rfl; refine pk ?_; refine blk_put (cs := #[.int .u64 (Go.bits .xor .u64 a0_0 8317987319222330741), .int .u64 (Go.bits .xor .u64 a0_1 7237128888997146477), .int .u64 0, .int .u64 0, .string (⟨#[]⟩ : ByteArray), .int .i64 0]) ?_ 2 _ rfl; refine pk ?_; refine blk_put (cs := #[.int .u64 (Go.bits .xor .u64 a0_0 8317987319222330741), .int .u64 0, .int .u64 0, .int .u64 0, .string (⟨#[]⟩ : ByteArray), .int .i64 0]) ?_ 1 _ rfl; refine pk ?_; refine blk_put (cs := #[.int .u64 0, .int .u64 0, .int .u64 0, .int .u64 0, .string (⟨#[]⟩ : ByteArray), .int .i64 0]) ?_ 0 _ rfl; refine pk ?_; exact BK151.out) Try.underlying80 rfl (by kernel_rfl)) rfl ?_
 exact ⟨by first | rfl | (simp [errW_none, errW_some] <;> rfl) | (simp [*, errW_none, errW_some] <;> rfl), pb HB⟩

end Go.Proofs.Ytojpmjkphgjmgaa.H
