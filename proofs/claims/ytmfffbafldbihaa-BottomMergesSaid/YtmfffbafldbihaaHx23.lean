import Derived.Test.YtmfffbafldbihaaHx0
import Derived.Test.YtmfffbafldbihaaHx1
import Derived.Test.YtmfffbafldbihaaHx6
import Derived.Test.YtmfffbafldbihaaHx7
import Derived.Test.YtmfffbafldbihaaHx12
import Derived.Test.YtmfffbafldbihaaHx14
import Derived.Test.YtmfffbafldbihaaHx15
import Derived.Test.YtmfffbafldbihaaHx18
import Derived.Test.YtmfffbafldbihaaHx22
namespace Go.Proofs.Ytmfffbafldbihaa.H
open Go.RowKit Go.Proofs.YtmfffbafldbihaaW.PrintWords Go.Proofs.YtmfffbafldbihaaW.PrintLast Go.Proofs.YtmfffbafldbihaaW.PrintMore Go.Proofs.YtmfffbafldbihaaW.Sq
attribute [local go_sem] max2_int min2_int max_two min_two max_three min_three max_four min_four
set_option linter.unusedVariables false
set_option linter.unusedSimpArgs false

attribute [local go_sem high] eqA24
mutual
def l14_BottomMerges.j0 : Nat → Bool → Int → Int → Int → List (S62) → Int → Int → Int → List (S62) → Int → Int → Int → List (S60) → Int → Int → Int → List (S60) → Option (Bool)
 | 0, _, _, _, _, _, _, _, _, _, _, _, _, _, _, _, _, _ => none
 | k + 1, x23, x388000, x388001, x388002, x388003, x389000, x389001, x389002, x389003, x402000, x402001, x402002, x402003, x403000, x403001, x403002, x403003 => if x23 = true then ((l14_awake.f k).bind fun t405 => (some t405)) else ((bottom_Merge.f k x388000 x388001 x388002 x388003 x389000 x389001 x389002 x389003).bind fun bt406 => ((l14_same.f k bt406.1 bt406.2.1 bt406.2.2.1 bt406.2.2.2.1 0 0 0 ([] : List (S60))).bind fun t414 => ((r14_Right.f k x402000 x402001 x402002 x402003).bind fun t415 => (if t415 = true then ((r14_Right.f k x403000 x403001 x403002 x403003).bind fun t416 => (l14_BottomMerges.j1 k bt406.2.2.2.2 t414 (!t416) x388000 x388001 x388002 x388003 x389000 x389001 x389002 x389003 x402000 x402001 x402002 x402003 x403000 x403001 x403002 x403003 bt406.1 bt406.2.1 bt406.2.2.1 bt406.2.2.2.1)) else (l14_BottomMerges.j1 k bt406.2.2.2.2 t414 true x388000 x388001 x388002 x388003 x389000 x389001 x389002 x389003 x402000 x402001 x402002 x402003 x403000 x403001 x403002 x403003 bt406.1 bt406.2.1 bt406.2.2.1 bt406.2.2.2.1)))))
def l14_BottomMerges.j1 : Nat → Int → Bool → Bool → Int → Int → Int → List (S62) → Int → Int → Int → List (S62) → Int → Int → Int → List (S60) → Int → Int → Int → List (S60) → Int → Int → Int → List (S62) → Option (Bool)
 | 0, _, _, _, _, _, _, _, _, _, _, _, _, _, _, _, _, _, _, _, _, _, _, _ => none
 | k + 1, x8, x9, x34, x388000, x388001, x388002, x388003, x389000, x389001, x389002, x389003, x402000, x402001, x402002, x402003, x403000, x403001, x403002, x403003, x414000, x414001, x414002, x414003 => if x34 = true then (if x8 = 1 then (if x9 = true then ((l14_awake.f k).bind fun t417 => (some t417)) else (some false)) else (some false)) else (if (!(x388000 == x389000) || (!(x388001 == x389001))) = true then (if x8 = 9 then (if x9 = true then ((l14_awake.f k).bind fun t418 => (some t418)) else (some false)) else (some false)) else (if x388002 = x389002 then ((r14_Joined.f k x388000 x388001 x402003 x403003 (wrap64 (x388002 + 1))).bind fun bt420 => (if bt420.2 = true then (if x8 = 0 then ((l14_same.f k x414000 x414001 x414002 x414003 x388000 x388001 x388002 bt420.1).bind fun t424 => (if t424 = true then ((l14_awake.f k).bind fun t425 => (some t425)) else (some false))) else (some false)) else (if x8 = 12 then (if x9 = true then ((l14_awake.f k).bind fun t426 => (some t426)) else (some false)) else (some false)))) else (if x8 = 10 then (if x9 = true then ((l14_awake.f k).bind fun t419 => (some t419)) else (some false)) else (some false))))
end
def l14_BottomMerges.f (k : Nat) (a0_0 : Int) (a0_1 : Int) (a0_2 : Int) (l0_3 : List (S62)) (a1_0 : Int) (a1_1 : Int) (a1_2 : Int) (l1_3 : List (S62)) : Option (Bool) := (l14_ref.f k a0_0 a0_1 a0_2 l0_3).bind fun bt389 => ((l14_ref.f k a1_0 a1_1 a1_2 l1_3).bind fun bt395 => ((r14_Small.f k bt389.1 bt389.2.1 bt389.2.2.1 bt389.2.2.2).bind fun t403 => (if t403 = true then ((r14_Small.f k bt395.1 bt395.2.1 bt395.2.2.1 bt395.2.2.2).bind fun t404 => (l14_BottomMerges.j0 k (!t404) a0_0 a0_1 a0_2 l0_3 a1_0 a1_1 a1_2 l1_3 bt389.1 bt389.2.1 bt389.2.2.1 bt389.2.2.2 bt395.1 bt395.2.1 bt395.2.2.1 bt395.2.2.2)) else (l14_BottomMerges.j0 k true a0_0 a0_1 a0_2 l0_3 a1_0 a1_1 a1_2 l1_3 bt389.1 bt389.2.1 bt389.2.2.1 bt389.2.2.2 bt395.1 bt395.2.1 bt395.2.2.1 bt395.2.2.2))))
theorem l14_BottomMerges.mono_l : ∀ k, (∀ y0 y1 y2 y3 y4 y5 y6 y7 y8 y9 y10 y11 y12 y13 y14 y15 y16, LeO (l14_BottomMerges.j0 k y0 y1 y2 y3 y4 y5 y6 y7 y8 y9 y10 y11 y12 y13 y14 y15 y16) (l14_BottomMerges.j0 (k + 1) y0 y1 y2 y3 y4 y5 y6 y7 y8 y9 y10 y11 y12 y13 y14 y15 y16)) ∧ (∀ y0 y1 y2 y3 y4 y5 y6 y7 y8 y9 y10 y11 y12 y13 y14 y15 y16 y17 y18 y19 y20 y21 y22, LeO (l14_BottomMerges.j1 k y0 y1 y2 y3 y4 y5 y6 y7 y8 y9 y10 y11 y12 y13 y14 y15 y16 y17 y18 y19 y20 y21 y22) (l14_BottomMerges.j1 (k + 1) y0 y1 y2 y3 y4 y5 y6 y7 y8 y9 y10 y11 y12 y13 y14 y15 y16 y17 y18 y19 y20 y21 y22))
 | 0 => ⟨fun _ _ _ _ _ _ _ _ _ _ _ _ _ _ _ _ _ r h => by simp [l14_BottomMerges.j0] at h, fun _ _ _ _ _ _ _ _ _ _ _ _ _ _ _ _ _ _ _ _ _ _ _ r h => by simp [l14_BottomMerges.j1] at h⟩
 | k + 1 => by
  obtain ⟨ih0, ih1⟩ := l14_BottomMerges.mono_l k
  refine ⟨?_, ?_⟩
  ·intro y0 y1 y2 y3 y4 y5 y6 y7 y8 y9 y10 y11 y12 y13 y14 y15 y16
   unfold l14_BottomMerges.j0
   repeat' first
   | (with_reducible exact ih0 _ _ _ _ _ _ _ _ _ _ _ _ _ _ _ _ _)
   | (with_reducible exact ih1 _ _ _ _ _ _ _ _ _ _ _ _ _ _ _ _ _ _ _ _ _ _ _)
   | (with_reducible exact bottom_Merge.mono _ _ _ _ _ _ _ _ _)
   | (with_reducible exact l14_awake.mono _)
   | (with_reducible exact l14_ref.mono _ _ _ _ _)
   | (with_reducible exact l14_same.mono _ _ _ _ _ _ _ _ _)
   | (with_reducible exact r14_Joined.mono _ _ _ _ _ _)
   | (with_reducible exact r14_Right.mono _ _ _ _ _)
   | (with_reducible exact r14_Small.mono _ _ _ _ _)
   | (with_reducible exact LeO.refl _)
   | (with_reducible exact LeO.none _)
   | (with_reducible refine LeO.ite ?_ ?_)
   | (with_reducible refine LeO.bind ?_ (fun _ => ?_))
  ·intro y0 y1 y2 y3 y4 y5 y6 y7 y8 y9 y10 y11 y12 y13 y14 y15 y16 y17 y18 y19 y20 y21 y22
   unfold l14_BottomMerges.j1
   repeat' first
   | (with_reducible exact ih0 _ _ _ _ _ _ _ _ _ _ _ _ _ _ _ _ _)
   | (with_reducible exact ih1 _ _ _ _ _ _ _ _ _ _ _ _ _ _ _ _ _ _ _ _ _ _ _)
   | (with_reducible exact bottom_Merge.mono _ _ _ _ _ _ _ _ _)
   | (with_reducible exact l14_awake.mono _)
   | (with_reducible exact l14_ref.mono _ _ _ _ _)
   | (with_reducible exact l14_same.mono _ _ _ _ _ _ _ _ _)
   | (with_reducible exact r14_Joined.mono _ _ _ _ _ _)
   | (with_reducible exact r14_Right.mono _ _ _ _ _)
   | (with_reducible exact r14_Small.mono _ _ _ _ _)
   | (with_reducible exact LeO.refl _)
   | (with_reducible exact LeO.none _)
   | (with_reducible refine LeO.ite ?_ ?_)
   | (with_reducible refine LeO.bind ?_ (fun _ => ?_))
theorem l14_BottomMerges.mono : ∀ a0 a1 a2 a3 a4 a5 a6 a7 k, LeO (l14_BottomMerges.f k a0 a1 a2 a3 a4 a5 a6 a7) (l14_BottomMerges.f (k + 1) a0 a1 a2 a3 a4 a5 a6 a7) := by
 intro a0 a1 a2 a3 a4 a5 a6 a7 k
 obtain ⟨ih0, ih1⟩ := l14_BottomMerges.mono_l k
 unfold l14_BottomMerges.f
 repeat' first
   | (with_reducible exact ih0 _ _ _ _ _ _ _ _ _ _ _ _ _ _ _ _ _)
   | (with_reducible exact ih1 _ _ _ _ _ _ _ _ _ _ _ _ _ _ _ _ _ _ _ _ _ _ _)
   | (with_reducible exact bottom_Merge.mono _ _ _ _ _ _ _ _ _)
   | (with_reducible exact l14_awake.mono _)
   | (with_reducible exact l14_ref.mono _ _ _ _ _)
   | (with_reducible exact l14_same.mono _ _ _ _ _ _ _ _ _)
   | (with_reducible exact r14_Joined.mono _ _ _ _ _ _)
   | (with_reducible exact r14_Right.mono _ _ _ _ _)
   | (with_reducible exact r14_Small.mono _ _ _ _ _)
   | (with_reducible exact LeO.refl _)
   | (with_reducible exact LeO.none _)
   | (with_reducible refine LeO.ite ?_ ?_)
   | (with_reducible refine LeO.bind ?_ (fun _ => ?_))
def l14_BottomMerges.T1 : Bool × List (List Nat × List Nat) := (true, [([], []), ([0], [0]), ([], []), ([2, 1], [2]), ([], []), ([], []), ([4, 1, 3, 0, 1, 4, 5], [1, 4]), ([5, 3, 6, 0, 1, 2, 3, 4, 5, 6], [3, 5])])
def l14_BottomMerges.B1 : List Nat := [0, 1, 0, 7, 0, 0, 63, 127]
theorem l14_BottomMerges.tab1 : rtab .any (opsOf Try.f3 1) = l14_BottomMerges.T1 := by kernel_rfl
theorem l14_BottomMerges.bits1 : waitsOk l14_BottomMerges.T1.2 l14_BottomMerges.B1 = true := by kernel_rfl
set_option maxHeartbeats 8000000 in
set_option maxRecDepth 100000 in
theorem l14_BottomMerges.calls (k : Nat) (a0_0 : Int) (a0_1 : Int) (a0_2 : Int) (A0_3 : Option Addr) (c0_3 : Nat) (l0_3 : List (S62)) (a1_0 : Int) (a1_1 : Int) (a1_2 : Int) (A1_3 : Option Addr) (c1_3 : Nat) (l1_3 : List (S62)) (r : Bool) (hrT : Aside0 (r = true)) (w : World) (hr0_3 : Kd.C k62 w A0_3 l0_3.length l0_3) (hc0_3 : l0_3.length ≤ c0_3) (hr1_3 : Kd.C k62 w A1_3 l1_3.length l1_3) (hc1_3 : l1_3.length ≤ c1_3) (h : l14_BottomMerges.f k a0_0 a0_1 a0_2 l0_3 a1_0 a1_1 a1_2 l1_3 = some r) :
  Calls Try.prog 3 #[.agg #[.int .u64 a0_0, .int .u64 a0_1, .int .i64 a0_2, .slice A0_3 l0_3.length c0_3], .agg #[.int .u64 a1_0, .int .u64 a1_1, .int .i64 a1_2, .slice A1_3 l1_3.length c1_3]] w fun e w' => e = .returned (.bool r) ∧ Below w.heap.size w w' := by
 have hu27 := Try.underlying27
 have hu30 := Try.underlying30
 have hu24 := Try.underlying24
 have HR0_3 := am hr0_3
 have HC0_3 := am hc0_3
 clear hr0_3 hc0_3
 have HR1_3 := am hr1_3
 have HC1_3 := am hc1_3
 clear hr1_3 hc1_3
 have HB := am (Below.refl w.heap.size w)
 have H : ((l14_ref.f k a0_0 a0_1 a0_2 l0_3).bind fun bt389 => ((l14_ref.f k a1_0 a1_1 a1_2 l1_3).bind fun bt395 => ((r14_Small.f k bt389.1 bt389.2.1 bt389.2.2.1 bt389.2.2.2).bind fun t403 => (if t403 = true then ((r14_Small.f k bt395.1 bt395.2.1 bt395.2.2.1 bt395.2.2.2).bind fun t404 => (l14_BottomMerges.j0 k (!t404) a0_0 a0_1 a0_2 l0_3 a1_0 a1_1 a1_2 l1_3 bt389.1 bt389.2.1 bt389.2.2.1 bt389.2.2.2 bt395.1 bt395.2.1 bt395.2.2.1 bt395.2.2.2)) else (l14_BottomMerges.j0 k true a0_0 a0_1 a0_2 l0_3 a1_0 a1_1 a1_2 l1_3 bt389.1 bt389.2.1 bt389.2.2.1 bt389.2.2.2 bt395.1 bt395.2.1 bt395.2.2.1 bt395.2.2.2))))) = some r := h
 clear h
 replace H := Option.bind_eq_some_iff.mp H
 obtain ⟨⟨t389, t390, t391, t392⟩, A30, H⟩ := H
 try dsimp only at H
 have A3 := am A30
 clear A30
 replace H := Option.bind_eq_some_iff.mp H
 obtain ⟨⟨t395, t396, t397, t398⟩, A40, H⟩ := H
 try dsimp only at H
 have A4 := am A40
 clear A40
 have HC5 := am H
 clear H
 go_enter Try.func3, Try.ntmps3
 try go_wp2_with (first | ((with_reducible refine gate_dst (N := 2) rfl ?_); refine be 2 #[.int .u64 a0_0, .int .u64 a0_1, .int .i64 a0_2, .slice A0_3 l0_3.length c0_3] 27 ?_; intro gb387 hg w6 hbox hb; have n0_ := am (below_step (pb HB) hb); have n1_ := am (hbox); have n2_ := am ((pg hg HB : w.heap.size ≤ gb387)); have n3_ := am ((pg hg HB : w.heap.size ≤ gb387)); clear HB; have HB := n0_; have BK387 := n1_; have GW387 := n2_; have GE387 := n3_; clear n0_ n1_ n2_ n3_; clear hb hbox hg) | ((with_reducible refine gate_dst (N := 3) rfl ?_); refine be 3 #[.int .u64 a1_0, .int .u64 a1_1, .int .i64 a1_2, .slice A1_3 l1_3.length c1_3] 27 ?_; intro gb388 hg w7 hbox hb; have n0_ := am (blk_below (pk BK387.out) hb); have n1_ := am (below_step (pb HB) hb); have n2_ := am (hbox); have n3_ := am ((pg hg HB : w.heap.size ≤ gb388)); have n4_ := am ((pg hg HB : w.heap.size ≤ gb388)); have n5_ := am ((pl hg (pk BK387.out) : gb387 ≠ gb388)); have n6_ := am ((pl' hg (pk BK387.out) : gb388 ≠ gb387)); clear BK387; clear HB; have BK387 := n0_; have HB := n1_; have BK388 := n2_; have GW388 := n3_; have GE388 := n4_; have NB387_388 := n5_; have NB388_387 := n6_; clear n0_ n1_ n2_ n3_ n4_ n5_ n6_; clear hb hbox hg))
 replace BK387 := am (blk_drew BK387.out)
 replace BK388 := am (blk_drew BK388.out)
 replace HB := am (below_drew1 HB.out)
 refine start_ (n := 8) (S := fun w' => w'.cell? ⟨gb387, 0, none⟩ = some (.int .u64 a0_0) ∧ w'.cell? ⟨gb387, 1, none⟩ = some (.int .u64 a0_1) ∧ w'.cell? ⟨gb387, 2, none⟩ = some (.int .i64 a0_2) ∧ w'.cell? ⟨gb387, 3, none⟩ = some (.slice A0_3 l0_3.length c0_3) ∧ w'.cell? ⟨gb388, 0, none⟩ = some (.int .u64 a1_0) ∧ w'.cell? ⟨gb388, 1, none⟩ = some (.int .u64 a1_1) ∧ w'.cell? ⟨gb388, 2, none⟩ = some (.int .i64 a1_2) ∧ w'.cell? ⟨gb388, 3, none⟩ = some (.slice A1_3 l1_3.length c1_3)) (ds := []) #[false, false, false, false, false, false, false, false] (by kernel_rfl) rfl rfl ⟨ce BK387 0, ce BK387 1, ce BK387 2, ce BK387 3, ce BK388 0, ce BK388 1, ce BK388 2, ce BK388 3⟩ (fun hHeld => ?_); refine with_tabW l14_BottomMerges.tab1 l14_BottomMerges.bits1 (fun HT_ HW_ => ?_)
 generalize w7.drew = w8 at BK387 BK388 HB hHeld ⊢
 refine ta 0 hHeld ?_
 refine ta 2 hHeld ?_
 refine join_ (σ := Value × Value × Nat × Nat) 2 #[true, true, true, true, true, true, false, false] (fun s_ => [(13, .agg #[.int .u64 t389, .int .u64 t390, .int .i64 t391, s_.1]), (15, .agg #[.int .u64 t395, .int .u64 t396, .int .i64 t397, s_.2.1]), (5, .pointer (some ⟨s_.2.2.1, 0, none⟩)), (6, .pointer (some ⟨s_.2.2.2, 0, none⟩))]) (fun s_ w' => (w'.cell? ⟨gb387, 0, none⟩ = some (.int .u64 a0_0) ∧ w'.cell? ⟨gb387, 1, none⟩ = some (.int .u64 a0_1) ∧ w'.cell? ⟨gb387, 2, none⟩ = some (.int .i64 a0_2) ∧ w'.cell? ⟨gb387, 3, none⟩ = some (.slice A0_3 l0_3.length c0_3) ∧ w'.cell? ⟨gb388, 0, none⟩ = some (.int .u64 a1_0) ∧ w'.cell? ⟨gb388, 1, none⟩ = some (.int .u64 a1_1) ∧ w'.cell? ⟨gb388, 2, none⟩ = some (.int .i64 a1_2) ∧ w'.cell? ⟨gb388, 3, none⟩ = some (.slice A1_3 l1_3.length c1_3)) ∧ (Kd.R k60 60 w' w.heap.size (fun k_ => some k_ ≠ (s_.2.1 : Value).ownBlock) s_.1 t392) ∧ (Kd.R k60 60 w' w.heap.size (fun k_ => some k_ ≠ (s_.1 : Value).ownBlock) s_.2.1 t398) ∧ (w'.heap[gb387]? = some (.cells #[.int .u64 a0_0, .int .u64 a0_1, .int .i64 a0_2, .slice A0_3 l0_3.length c0_3] 27 (0, 0))) ∧ (w'.heap[gb388]? = some (.cells #[.int .u64 a1_0, .int .u64 a1_1, .int .i64 a1_2, .slice A1_3 l1_3.length c1_3] 27 (0, 0))) ∧ (w'.heap[s_.2.2.1]? = some (.cells #[.int .u64 0, .int .u64 0, .int .i64 0, .slice none 0 0] 30 (0, 0))) ∧ (w'.heap[s_.2.2.2]? = some (.cells #[.int .u64 0, .int .u64 0, .int .i64 0, .slice none 0 0] 30 (0, 0))) ∧ (w.heap.size ≤ s_.2.2.1) ∧ (w.heap.size ≤ s_.2.2.1) ∧ (gb387 ≠ s_.2.2.1) ∧ (s_.2.2.1 ≠ gb387) ∧ (gb388 ≠ s_.2.2.1) ∧ (s_.2.2.1 ≠ gb388) ∧ (s_.2.2.2 ≠ s_.2.2.1) ∧ (s_.2.2.1 ≠ s_.2.2.2) ∧ (w.heap.size ≤ s_.2.2.2) ∧ (w.heap.size ≤ s_.2.2.2) ∧ (gb387 ≠ s_.2.2.2) ∧ (s_.2.2.2 ≠ gb387) ∧ (gb388 ≠ s_.2.2.2) ∧ (s_.2.2.2 ≠ gb388) ∧ (Below w.heap.size w w')) ?_ ?_
 ·rintro ⟨v393, v399, gb401, gb402⟩ w13 ⟨hS_, h0_, h1_, h2_, h3_, h4_, h5_, h6_, h7_, h8_, h9_, h10_, h11_, h12_, h13_, h14_, h15_, h16_, h17_, h18_, h19_, h20_⟩
  have HO394 : Aside0 (Kd.R k60 60 w13 w.heap.size (fun k_ => some k_ ≠ (v399 : Value).ownBlock) v393 t392) := ⟨h0_⟩
  have HO400 : Aside0 (Kd.R k60 60 w13 w.heap.size (fun k_ => some k_ ≠ (v393 : Value).ownBlock) v399 t398) := ⟨h1_⟩
  replace BK387 : Aside0 (w13.heap[gb387]? = some (.cells #[.int .u64 a0_0, .int .u64 a0_1, .int .i64 a0_2, .slice A0_3 l0_3.length c0_3] 27 (0, 0))) := ⟨h2_⟩
  replace BK388 : Aside0 (w13.heap[gb388]? = some (.cells #[.int .u64 a1_0, .int .u64 a1_1, .int .i64 a1_2, .slice A1_3 l1_3.length c1_3] 27 (0, 0))) := ⟨h3_⟩
  have BK401 : Aside0 (w13.heap[gb401]? = some (.cells #[.int .u64 0, .int .u64 0, .int .i64 0, .slice none 0 0] 30 (0, 0))) := ⟨h4_⟩
  have BK402 : Aside0 (w13.heap[gb402]? = some (.cells #[.int .u64 0, .int .u64 0, .int .i64 0, .slice none 0 0] 30 (0, 0))) := ⟨h5_⟩
  have GW401 : Aside0 (w.heap.size ≤ gb401) := ⟨h6_⟩
  have GE401 : Aside0 (w.heap.size ≤ gb401) := ⟨h7_⟩
  have NB387_401 : Aside0 (gb387 ≠ gb401) := ⟨h8_⟩
  have NB401_387 : Aside0 (gb401 ≠ gb387) := ⟨h9_⟩
  have NB388_401 : Aside0 (gb388 ≠ gb401) := ⟨h10_⟩
  have NB401_388 : Aside0 (gb401 ≠ gb388) := ⟨h11_⟩
  have NB402_401 : Aside0 (gb402 ≠ gb401) := ⟨h12_⟩
  have NB401_402 : Aside0 (gb401 ≠ gb402) := ⟨h13_⟩
  have GW402 : Aside0 (w.heap.size ≤ gb402) := ⟨h14_⟩
  have GE402 : Aside0 (w.heap.size ≤ gb402) := ⟨h15_⟩
  have NB387_402 : Aside0 (gb387 ≠ gb402) := ⟨h16_⟩
  have NB402_387 : Aside0 (gb402 ≠ gb387) := ⟨h17_⟩
  have NB388_402 : Aside0 (gb388 ≠ gb402) := ⟨h18_⟩
  have NB402_388 : Aside0 (gb402 ≠ gb388) := ⟨h19_⟩
  replace HB : Aside0 (Below w.heap.size w w13) := ⟨h20_⟩
  clear h0_ h1_ h2_ h3_ h4_ h5_ h6_ h7_ h8_ h9_ h10_ h11_ h12_ h13_ h14_ h15_ h16_ h17_ h18_ h19_ h20_
  have hHeld : w13.cell? ⟨gb387, 0, none⟩ = some (.int .u64 a0_0) ∧ w13.cell? ⟨gb387, 1, none⟩ = some (.int .u64 a0_1) ∧ w13.cell? ⟨gb387, 2, none⟩ = some (.int .i64 a0_2) ∧ w13.cell? ⟨gb387, 3, none⟩ = some (.slice A0_3 l0_3.length c0_3) ∧ w13.cell? ⟨gb388, 0, none⟩ = some (.int .u64 a1_0) ∧ w13.cell? ⟨gb388, 1, none⟩ = some (.int .u64 a1_1) ∧ w13.cell? ⟨gb388, 2, none⟩ = some (.int .i64 a1_2) ∧ w13.cell? ⟨gb388, 3, none⟩ = some (.slice A1_3 l1_3.length c1_3) := hS_
  obtain ⟨Ao17, co17, eo17⟩ := Kd.R_slice HO394.out
  (first | subst eo17 | (injection eo17 with f1_ f2_ f3_; have f4_ := f1_.symm; have f5_ := f3_.symm; clear f1_ f2_ f3_; subst f4_; subst f5_))
  obtain ⟨Ao22, co22, eo22⟩ := Kd.R_slice HO400.out
  (first | subst eo22 | (injection eo22 with f1_ f2_ f3_; have f4_ := f1_.symm; have f5_ := f3_.symm; clear f1_ f2_ f3_; subst f4_; subst f5_))
  refine norm_ (a' := ?_) ?_ ?_
  rotate_left
  ·simp only [putAll, Act.put, List.setIfInBounds_toArray, List.set_cons_zero, List.set_cons_succ]
   rfl
  refine one_ (i := 6) (N := none) #[true, true, true, true, true, true, true, false] rfl rfl (one_of HT_.out (by kernel_rfl)) (by decide) (fun K hK => ?_)
  have hs14 : w13.cell? ⟨gb401, 0, none⟩ = some (.int .u64 0) := ce BK401 0
  have hfs14 := blk_frozen BK401.out 0
  have hns14_0 := NB387_401.out
  have hns14_1 := NB388_401.out
  have hns14_3 := NB402_401.out
  have hms14_0 := NB401_387.out
  have hms14_1 := NB401_388.out
  have hms14_3 := NB401_402.out
  have hs15 : w13.cell? ⟨gb401, 1, none⟩ = some (.int .u64 0) := ce BK401 1
  have hfs15 := blk_frozen BK401.out 1
  have hns15_0 := NB387_401.out
  have hns15_1 := NB388_401.out
  have hns15_3 := NB402_401.out
  have hms15_0 := NB401_387.out
  have hms15_1 := NB401_388.out
  have hms15_3 := NB401_402.out
  have hs16 : w13.cell? ⟨gb401, 2, none⟩ = some (.int .i64 0) := ce BK401 2
  have hfs16 := blk_frozen BK401.out 2
  have hns16_0 := NB387_401.out
  have hns16_1 := NB388_401.out
  have hns16_3 := NB402_401.out
  have hms16_0 := NB401_387.out
  have hms16_1 := NB401_388.out
  have hms16_3 := NB401_402.out
  have hs18 : w13.cell? ⟨gb401, 3, none⟩ = some (.slice none 0 0) := ce BK401 3
  have hfs18 := blk_frozen BK401.out 3
  have hns18_0 := NB387_401.out
  have hns18_1 := NB388_401.out
  have hns18_3 := NB402_401.out
  have hms18_0 := NB401_387.out
  have hms18_1 := NB401_388.out
  have hms18_3 := NB401_402.out
  refine skip_ (w1 := ?_) (by rfl) rfl ?_ ?_
  rotate_left
  ·go_simp
   rfl
  refine hK.out _ _ ⟨((cell_far (p := ⟨gb401, _, none⟩) NB387_401.out _).trans (((cell_far (p := ⟨gb401, _, none⟩) NB387_401.out _).trans (((cell_far (p := ⟨gb401, _, none⟩) NB387_401.out _).trans (((cell_far (p := ⟨gb401, _, none⟩) NB387_401.out _).trans (hHeld.1)))))))), ((cell_far (p := ⟨gb401, _, none⟩) NB387_401.out _).trans (((cell_far (p := ⟨gb401, _, none⟩) NB387_401.out _).trans (((cell_far (p := ⟨gb401, _, none⟩) NB387_401.out _).trans (((cell_far (p := ⟨gb401, _, none⟩) NB387_401.out _).trans (hHeld.2.1)))))))), ((cell_far (p := ⟨gb401, _, none⟩) NB387_401.out _).trans (((cell_far (p := ⟨gb401, _, none⟩) NB387_401.out _).trans (((cell_far (p := ⟨gb401, _, none⟩) NB387_401.out _).trans (((cell_far (p := ⟨gb401, _, none⟩) NB387_401.out _).trans (hHeld.2.2.1)))))))), ((cell_far (p := ⟨gb401, _, none⟩) NB387_401.out _).trans (((cell_far (p := ⟨gb401, _, none⟩) NB387_401.out _).trans (((cell_far (p := ⟨gb401, _, none⟩) NB387_401.out _).trans (((cell_far (p := ⟨gb401, _, none⟩) NB387_401.out _).trans (hHeld.2.2.2.1)))))))), ((cell_far (p := ⟨gb401, _, none⟩) NB388_401.out _).trans (((cell_far (p := ⟨gb401, _, none⟩) NB388_401.out _).trans (((cell_far (p := ⟨gb401, _, none⟩) NB388_401.out _).trans (((cell_far (p := ⟨gb401, _, none⟩) NB388_401.out _).trans (hHeld.2.2.2.2.1)))))))), ((cell_far (p := ⟨gb401, _, none⟩) NB388_401.out _).trans (((cell_far (p := ⟨gb401, _, none⟩) NB388_401.out _).trans (((cell_far (p := ⟨gb401, _, none⟩) NB388_401.out _).trans (((cell_far (p := ⟨gb401, _, none⟩) NB388_401.out _).trans (hHeld.2.2.2.2.2.1)))))))), ((cell_far (p := ⟨gb401, _, none⟩) NB388_401.out _).trans (((cell_far (p := ⟨gb401, _, none⟩) NB388_401.out _).trans (((cell_far (p := ⟨gb401, _, none⟩) NB388_401.out _).trans (((cell_far (p := ⟨gb401, _, none⟩) NB388_401.out _).trans (hHeld.2.2.2.2.2.2.1)))))))), ((cell_far (p := ⟨gb401, _, none⟩) NB388_401.out _).trans (((cell_far (p := ⟨gb401, _, none⟩) NB388_401.out _).trans (((cell_far (p := ⟨gb401, _, none⟩) NB388_401.out _).trans (((cell_far (p := ⟨gb401, _, none⟩) NB388_401.out _).trans (hHeld.2.2.2.2.2.2.2))))))))⟩ (fun hHeld => ?_)
  clear hK K
  refine one_ (i := 7) (N := none) #[true, true, true, true, true, true, true, true] rfl rfl (one_of HT_.out (by kernel_rfl)) (by decide) (fun K hK => ?_)
  have hs19 : w13.cell? ⟨gb402, 0, none⟩ = some (.int .u64 0) := ce BK402 0
  have hfs19 := blk_frozen BK402.out 0
  have hns19_0 := NB387_402.out
  have hns19_1 := NB388_402.out
  have hns19_2 := NB401_402.out
  have hms19_0 := NB402_387.out
  have hms19_1 := NB402_388.out
  have hms19_2 := NB402_401.out
  have hs20 : w13.cell? ⟨gb402, 1, none⟩ = some (.int .u64 0) := ce BK402 1
  have hfs20 := blk_frozen BK402.out 1
  have hns20_0 := NB387_402.out
  have hns20_1 := NB388_402.out
  have hns20_2 := NB401_402.out
  have hms20_0 := NB402_387.out
  have hms20_1 := NB402_388.out
  have hms20_2 := NB402_401.out
  have hs21 : w13.cell? ⟨gb402, 2, none⟩ = some (.int .i64 0) := ce BK402 2
  have hfs21 := blk_frozen BK402.out 2
  have hns21_0 := NB387_402.out
  have hns21_1 := NB388_402.out
  have hns21_2 := NB401_402.out
  have hms21_0 := NB402_387.out
  have hms21_1 := NB402_388.out
  have hms21_2 := NB402_401.out
  have hs23 : w13.cell? ⟨gb402, 3, none⟩ = some (.slice none 0 0) := ce BK402 3
  have hfs23 := blk_frozen BK402.out 3
  have hns23_0 := NB387_402.out
  have hns23_1 := NB388_402.out
  have hns23_2 := NB401_402.out
  have hms23_0 := NB402_387.out
  have hms23_1 := NB402_388.out
  have hms23_2 := NB402_401.out
  refine skip_ (w1 := ?_) (by rfl) rfl ?_ ?_
  rotate_left
  ·go_simp
   rfl
  refine hK.out _ _ ⟨((cell_far (p := ⟨gb402, _, none⟩) NB387_402.out _).trans (((cell_far (p := ⟨gb402, _, none⟩) NB387_402.out _).trans (((cell_far (p := ⟨gb402, _, none⟩) NB387_402.out _).trans (((cell_far (p := ⟨gb402, _, none⟩) NB387_402.out _).trans (hHeld.1)))))))), ((cell_far (p := ⟨gb402, _, none⟩) NB387_402.out _).trans (((cell_far (p := ⟨gb402, _, none⟩) NB387_402.out _).trans (((cell_far (p := ⟨gb402, _, none⟩) NB387_402.out _).trans (((cell_far (p := ⟨gb402, _, none⟩) NB387_402.out _).trans (hHeld.2.1)))))))), ((cell_far (p := ⟨gb402, _, none⟩) NB387_402.out _).trans (((cell_far (p := ⟨gb402, _, none⟩) NB387_402.out _).trans (((cell_far (p := ⟨gb402, _, none⟩) NB387_402.out _).trans (((cell_far (p := ⟨gb402, _, none⟩) NB387_402.out _).trans (hHeld.2.2.1)))))))), ((cell_far (p := ⟨gb402, _, none⟩) NB387_402.out _).trans (((cell_far (p := ⟨gb402, _, none⟩) NB387_402.out _).trans (((cell_far (p := ⟨gb402, _, none⟩) NB387_402.out _).trans (((cell_far (p := ⟨gb402, _, none⟩) NB387_402.out _).trans (hHeld.2.2.2.1)))))))), ((cell_far (p := ⟨gb402, _, none⟩) NB388_402.out _).trans (((cell_far (p := ⟨gb402, _, none⟩) NB388_402.out _).trans (((cell_far (p := ⟨gb402, _, none⟩) NB388_402.out _).trans (((cell_far (p := ⟨gb402, _, none⟩) NB388_402.out _).trans (hHeld.2.2.2.2.1)))))))), ((cell_far (p := ⟨gb402, _, none⟩) NB388_402.out _).trans (((cell_far (p := ⟨gb402, _, none⟩) NB388_402.out _).trans (((cell_far (p := ⟨gb402, _, none⟩) NB388_402.out _).trans (((cell_far (p := ⟨gb402, _, none⟩) NB388_402.out _).trans (hHeld.2.2.2.2.2.1)))))))), ((cell_far (p := ⟨gb402, _, none⟩) NB388_402.out _).trans (((cell_far (p := ⟨gb402, _, none⟩) NB388_402.out _).trans (((cell_far (p := ⟨gb402, _, none⟩) NB388_402.out _).trans (((cell_far (p := ⟨gb402, _, none⟩) NB388_402.out _).trans (hHeld.2.2.2.2.2.2.1)))))))), ((cell_far (p := ⟨gb402, _, none⟩) NB388_402.out _).trans (((cell_far (p := ⟨gb402, _, none⟩) NB388_402.out _).trans (((cell_far (p := ⟨gb402, _, none⟩) NB388_402.out _).trans (((cell_far (p := ⟨gb402, _, none⟩) NB388_402.out _).trans (hHeld.2.2.2.2.2.2.2))))))))⟩ (fun hHeld => ?_)
  clear hK K
  refine done_ (done_of HT_.out (by kernel_rfl)) ?_
  go_upto_region 2 with (fail)
  go_cut [23] (fun v23 wc => ∃ (kq : Nat) (x23_4 : Bool), v23 = .bool x23_4 ∧ Aside0 (l14_BottomMerges.j0 kq x23_4 a0_0 a0_1 a0_2 l0_3 a1_0 a1_1 a1_2 l1_3 t389 t390 t391 t392 t395 t396 t397 t398 = some r) ∧ Aside0 (kq ≤ k) ∧ Aside0 (Kd.R k60 60 wc w.heap.size (fun k_ => some k_ ≠ ((.slice Ao22 t398.length co22) : Value).ownBlock) (.slice Ao17 t392.length co17) t392) ∧ Aside0 (Kd.R k60 60 wc w.heap.size (fun k_ => some k_ ≠ ((.slice Ao17 t392.length co17) : Value).ownBlock) (.slice Ao22 t398.length co22) t398) ∧ Aside0 (wc.heap[gb387]? = some (.cells #[.int .u64 a0_0, .int .u64 a0_1, .int .i64 a0_2, (.slice A0_3 l0_3.length c0_3)] 27 (0, 0))) ∧ Aside0 (wc.heap[gb388]? = some (.cells #[.int .u64 a1_0, .int .u64 a1_1, .int .i64 a1_2, (.slice A1_3 l1_3.length c1_3)] 27 (0, 0))) ∧ Aside0 (wc.heap[gb401]? = some (.cells #[.int .u64 t389, .int .u64 t390, .int .i64 t391, (.slice Ao17 t392.length co17)] 30 (0, 0))) ∧ Aside0 (wc.heap[gb402]? = some (.cells #[.int .u64 t395, .int .u64 t396, .int .i64 t397, (.slice Ao22 t398.length co22)] 30 (0, 0))) ∧ Aside0 (Below w.heap.size w wc))
  case first =>
   have H := HC5.out
   clear HC5
   replace H := Option.bind_eq_some_iff.mp H
   obtain ⟨t403, A240, H⟩ := H
   try dsimp only at H
   have A24 := am A240
   clear A240
   by_cases c25 : t403 = true
   ·subst c25
    have H1 : ((r14_Small.f k t395 t396 t397 t398).bind fun t404 => (l14_BottomMerges.j0 k (!t404) a0_0 a0_1 a0_2 l0_3 a1_0 a1_1 a1_2 l1_3 t389 t390 t391 t392 t395 t396 t397 t398)) = some r := by rw [if_pos rfl] at H; exact H
    clear H
    have H := H1
    clear H1
    replace H := Option.bind_eq_some_iff.mp H
    obtain ⟨t404, A260, H⟩ := H
    try dsimp only at H
    have A26 := am A260
    clear A260
    have H' := am H
    clear H
    have hnb27 := NB401_387.out
    have hnc27 := NB387_401.out
    have hnb28 := NB401_388.out
    have hnc28 := NB388_401.out
    have hnb29 := NB401_402.out
    have hnc29 := NB402_401.out
    have hcz30_0 := ce BK401 0
    have hcz30_1 := ce BK401 1
    have hcz30_2 := ce BK401 2
    have hcz30_3 := ce BK401 3
    have hfz30_0 := fz BK401 0
    have hfz30_1 := fz BK401 1
    have hfz30_2 := fz BK401 2
    have hfz30_3 := fz BK401 3
    go_wp2_with (first | ((with_reducible refine gate_callee (f := 10) rfl ?_); refine gl (some 17) Try.func10 #[.agg #[.int .u64 t389, .int .u64 t390, .int .i64 t391, .slice Ao17 t392.length co17]] ?_; (with_reducible refine (r14_Small.calls k t389 t390 t391 _ _ t392 true _ ?side1 ?side2 A24.out).mono ?_); (case side1 => refine (Kd.R_reads' (e := 60) (base := w.heap.size) (ok := fun k_ => some k_ ≠ (.slice Ao22 t398.length co22 : Value).ownBlock) (n := t392.length) (c := co17) ?_).2.2; exact (pr ((Kd.R_mono (Kd.R_mono (Kd.R_far (p := ⟨gb402, 3, none⟩) (Kd.R_far (p := ⟨gb402, 2, none⟩) (Kd.R_far (p := ⟨gb402, 1, none⟩) (Kd.R_far (p := ⟨gb402, 0, none⟩) (Kd.R_far (p := ⟨gb401, 3, none⟩) (Kd.R_far (p := ⟨gb401, 2, none⟩) (Kd.R_far (p := ⟨gb401, 1, none⟩) (Kd.R_far (p := ⟨gb401, 0, none⟩) (Kd.R_types (Kd.R_types HO394.out BK401.out (by decide)) BK402.out (by decide)) (fun _ hk => hk.1.2) (.int .u64 t389)) (fun _ hk => hk.1.2) (.int .u64 t390)) (fun _ hk => hk.1.2) (.int .i64 t391)) (fun _ hk => hk.1.2) (.slice Ao17 t392.length co17)) (fun _ hk => hk.2) (.int .u64 t395)) (fun _ hk => hk.2) (.int .u64 t396)) (fun _ hk => hk.2) (.int .i64 t397)) (fun _ hk => hk.2) (.slice Ao22 t398.length co22)) (fun _ h_ => h_.1)) (fun _ h_ => h_.1))))); (case side2 => exact (Kd.R_reads' HO394.out).2.1); rintro e w31 ⟨rfl, hb⟩; refine ⟨_, rfl, ?_⟩; replace HO394 := am (Kd.R_below (pr ((Kd.R_mono (Kd.R_mono (Kd.R_far (p := ⟨gb402, 3, none⟩) (Kd.R_far (p := ⟨gb402, 2, none⟩) (Kd.R_far (p := ⟨gb402, 1, none⟩) (Kd.R_far (p := ⟨gb402, 0, none⟩) (Kd.R_far (p := ⟨gb401, 3, none⟩) (Kd.R_far (p := ⟨gb401, 2, none⟩) (Kd.R_far (p := ⟨gb401, 1, none⟩) (Kd.R_far (p := ⟨gb401, 0, none⟩) (Kd.R_types (Kd.R_types HO394.out BK401.out (by decide)) BK402.out (by decide)) (fun _ hk => hk.1.2) (.int .u64 t389)) (fun _ hk => hk.1.2) (.int .u64 t390)) (fun _ hk => hk.1.2) (.int .i64 t391)) (fun _ hk => hk.1.2) (.slice Ao17 t392.length co17)) (fun _ hk => hk.2) (.int .u64 t395)) (fun _ hk => hk.2) (.int .u64 t396)) (fun _ hk => hk.2) (.int .i64 t397)) (fun _ hk => hk.2) (.slice Ao22 t398.length co22)) (fun _ h_ => h_.1)) (fun _ h_ => h_.1)))) hb); replace HO400 := am (Kd.R_below (pr ((Kd.R_mono (Kd.R_mono (Kd.R_far (p := ⟨gb402, 3, none⟩) (Kd.R_far (p := ⟨gb402, 2, none⟩) (Kd.R_far (p := ⟨gb402, 1, none⟩) (Kd.R_far (p := ⟨gb402, 0, none⟩) (Kd.R_far (p := ⟨gb401, 3, none⟩) (Kd.R_far (p := ⟨gb401, 2, none⟩) (Kd.R_far (p := ⟨gb401, 1, none⟩) (Kd.R_far (p := ⟨gb401, 0, none⟩) (Kd.R_types (Kd.R_types HO400.out BK401.out (by decide)) BK402.out (by decide)) (fun _ hk => hk.1.2) (.int .u64 t389)) (fun _ hk => hk.1.2) (.int .u64 t390)) (fun _ hk => hk.1.2) (.int .i64 t391)) (fun _ hk => hk.1.2) (.slice Ao17 t392.length co17)) (fun _ hk => hk.2) (.int .u64 t395)) (fun _ hk => hk.2) (.int .u64 t396)) (fun _ hk => hk.2) (.int .i64 t397)) (fun _ hk => hk.2) (.slice Ao22 t398.length co22)) (fun _ h_ => h_.1)) (fun _ h_ => h_.1)))) hb); replace BK387 := am (blk_below (g := gb387) (o := .cells #[.int .u64 a0_0, .int .u64 a0_1, .int .i64 a0_2, .slice A0_3 l0_3.length c0_3] 27 (0, 0)) (by refine pk ?_; refine blk_far ?_ NB387_402.out _; refine pk ?_; refine blk_far ?_ NB387_402.out _; refine pk ?_; refine blk_far ?_ NB387_402.out _; refine pk ?_; refine blk_far ?_ NB387_402.out _; refine pk ?_; refine blk_far ?_ NB387_401.out _; refine pk ?_; refine blk_far ?_ NB387_401.out _; refine pk ?_; refine blk_far ?_ NB387_401.out _; refine pk ?_; refine blk_far ?_ NB387_401.out _; refine pk ?_; exact BK387.out) hb); replace BK388 := am (blk_below (g := gb388) (o := .cells #[.int .u64 a1_0, .int .u64 a1_1, .int .i64 a1_2, .slice A1_3 l1_3.length c1_3] 27 (0, 0)) (by refine pk ?_; refine blk_far ?_ NB388_402.out _; refine pk ?_; refine blk_far ?_ NB388_402.out _; refine pk ?_; refine blk_far ?_ NB388_402.out _; refine pk ?_; refine blk_far ?_ NB388_402.out _; refine pk ?_; refine blk_far ?_ NB388_401.out _; refine pk ?_; refine blk_far ?_ NB388_401.out _; refine pk ?_; refine blk_far ?_ NB388_401.out _; refine pk ?_; refine blk_far ?_ NB388_401.out _; refine pk ?_; exact BK388.out) hb); replace BK401 := am (blk_below (g := gb401) (o := .cells #[.int .u64 t389, .int .u64 t390, .int .i64 t391, .slice Ao17 t392.length co17] 30 (0, 0)) (by refine pk ?_; refine blk_far ?_ NB401_402.out _; refine pk ?_; refine blk_far ?_ NB401_402.out _; refine pk ?_; refine blk_far ?_ NB401_402.out _; refine pk ?_; refine blk_far ?_ NB401_402.out _; refine pk ?_; refine blk_put (cs := #[.int .u64 t389, .int .u64 t390, .int .i64 t391, .slice none 0 0]) ?_ 3 _ rfl; refine pk ?_; refine blk_put (cs := #[.int .u64 t389, .int .u64 t390, .int .i64 0, .slice none 0 0]) ?_ 2 _ rfl; refine pk ?_; refine blk_put (cs := #[.int .u64 t389, .int .u64 0, .int .i64 0, .slice none 0 0]) ?_ 1 _ rfl; refine pk ?_; refine blk_put (cs := #[.int .u64 0, .int .u64 0, .int .i64 0, .slice none 0 0]) ?_ 0 _ rfl; refine pk ?_; exact BK401.out) hb); replace BK402 := am (blk_below (g := gb402) (o := .cells #[.int .u64 t395, .int .u64 t396, .int .i64 t397, .slice Ao22 t398.length co22] 30 (0, 0)) (by refine pk ?_; refine blk_put (cs := #[.int .u64 t395, .int .u64 t396, .int .i64 t397, .slice none 0 0]) ?_ 3 _ rfl; refine pk ?_; refine blk_put (cs := #[.int .u64 t395, .int .u64 t396, .int .i64 0, .slice none 0 0]) ?_ 2 _ rfl; refine pk ?_; refine blk_put (cs := #[.int .u64 t395, .int .u64 0, .int .i64 0, .slice none 0 0]) ?_ 1 _ rfl; refine pk ?_; refine blk_put (cs := #[.int .u64 0, .int .u64 0, .int .i64 0, .slice none 0 0]) ?_ 0 _ rfl; refine pk ?_; refine blk_far ?_ NB402_401.out _; refine pk ?_; refine blk_far ?_ NB402_401.out _; refine pk ?_; refine blk_far ?_ NB402_401.out _; refine pk ?_; refine blk_far ?_ NB402_401.out _; refine pk ?_; exact BK402.out) hb); replace HB := am (below_step (pb HB) hb); (try clear hb); (try clear hb2); (try clear hk); (try clear hi); have hnb32 := NB402_387.out; have hnc32 := NB387_402.out; have hnb33 := NB402_388.out; have hnc33 := NB388_402.out; have hcz34_0 := ce BK402 0; have hcz34_1 := ce BK402 1; have hcz34_2 := ce BK402 2; have hcz34_3 := ce BK402 3; have hfz34_0 := fz BK402 0; have hfz34_1 := fz BK402 1; have hfz34_2 := fz BK402 2; have hfz34_3 := fz BK402 3) | (go_at_call 10; (with_reducible refine (r14_Small.calls k t395 t396 t397 _ _ t398 t404 _ ?side1 ?side2 A26.out).mono ?_); (case side1 => repeat (first | exact (Kd.R_reads' HO400.out).2.2 | (with_reducible refine Kd.C_alloc ?_ _) | (with_reducible refine Kd.C_drewN ?_ _) | (with_reducible refine Kd.C_drew ?_))); (case side2 => exact (Kd.R_reads' HO400.out).2.1); rintro e w35 ⟨rfl, hb⟩; replace HO394 := am (Kd.R_below (pr HO394.out) hb); replace HO400 := am (Kd.R_below (pr HO400.out) hb); replace BK387 := am (blk_below (pk BK387.out) hb); replace BK388 := am (blk_below (pk BK388.out) hb); replace BK401 := am (blk_below (pk BK401.out) hb); replace BK402 := am (blk_below (pk BK402.out) hb); replace HB := am (below_step (pb HB) hb); (try clear hb); (try clear hb2); (try clear hk); (try clear hi)))
    go_meet
    case rel => exact ⟨_, (!t404), (by first | rfl | (simp; done) | (simp [*]; done)), H', ⟨by first | omega | exact Nat.le_refl _⟩, ⟨pr HO394.out⟩, ⟨pr HO400.out⟩, ⟨pk BK387.out⟩, ⟨pk BK388.out⟩, ⟨pk BK401.out⟩, ⟨pk BK402.out⟩, ⟨pb HB⟩⟩
   ·replace c25 := Bool.eq_false_iff.mpr c25
    subst c25
    have H1 : (l14_BottomMerges.j0 k true a0_0 a0_1 a0_2 l0_3 a1_0 a1_1 a1_2 l1_3 t389 t390 t391 t392 t395 t396 t397 t398) = some r := by rw [if_neg (show ¬ (false = true) by decide)] at H; exact H
    clear H
    have H := H1
    clear H1
    have H' := am H
    clear H
    have hnb36 := NB401_387.out
    have hnc36 := NB387_401.out
    have hnb37 := NB401_388.out
    have hnc37 := NB388_401.out
    have hnb38 := NB401_402.out
    have hnc38 := NB402_401.out
    have hcz39_0 := ce BK401 0
    have hcz39_1 := ce BK401 1
    have hcz39_2 := ce BK401 2
    have hcz39_3 := ce BK401 3
    have hfz39_0 := fz BK401 0
    have hfz39_1 := fz BK401 1
    have hfz39_2 := fz BK401 2
    have hfz39_3 := fz BK401 3
    go_wp2_with (first | ((with_reducible refine gate_callee (f := 10) rfl ?_); refine gl (some 17) Try.func10 #[.agg #[.int .u64 t389, .int .u64 t390, .int .i64 t391, .slice Ao17 t392.length co17]] ?_; (with_reducible refine (r14_Small.calls k t389 t390 t391 _ _ t392 false _ ?side1 ?side2 A24.out).mono ?_); (case side1 => refine (Kd.R_reads' (e := 60) (base := w.heap.size) (ok := fun k_ => some k_ ≠ (.slice Ao22 t398.length co22 : Value).ownBlock) (n := t392.length) (c := co17) ?_).2.2; exact (pr ((Kd.R_mono (Kd.R_mono (Kd.R_far (p := ⟨gb402, 3, none⟩) (Kd.R_far (p := ⟨gb402, 2, none⟩) (Kd.R_far (p := ⟨gb402, 1, none⟩) (Kd.R_far (p := ⟨gb402, 0, none⟩) (Kd.R_far (p := ⟨gb401, 3, none⟩) (Kd.R_far (p := ⟨gb401, 2, none⟩) (Kd.R_far (p := ⟨gb401, 1, none⟩) (Kd.R_far (p := ⟨gb401, 0, none⟩) (Kd.R_types (Kd.R_types HO394.out BK401.out (by decide)) BK402.out (by decide)) (fun _ hk => hk.1.2) (.int .u64 t389)) (fun _ hk => hk.1.2) (.int .u64 t390)) (fun _ hk => hk.1.2) (.int .i64 t391)) (fun _ hk => hk.1.2) (.slice Ao17 t392.length co17)) (fun _ hk => hk.2) (.int .u64 t395)) (fun _ hk => hk.2) (.int .u64 t396)) (fun _ hk => hk.2) (.int .i64 t397)) (fun _ hk => hk.2) (.slice Ao22 t398.length co22)) (fun _ h_ => h_.1)) (fun _ h_ => h_.1))))); (case side2 => exact (Kd.R_reads' HO394.out).2.1); rintro e w40 ⟨rfl, hb⟩; refine ⟨_, rfl, ?_⟩; replace HO394 := am (Kd.R_below (pr ((Kd.R_mono (Kd.R_mono (Kd.R_far (p := ⟨gb402, 3, none⟩) (Kd.R_far (p := ⟨gb402, 2, none⟩) (Kd.R_far (p := ⟨gb402, 1, none⟩) (Kd.R_far (p := ⟨gb402, 0, none⟩) (Kd.R_far (p := ⟨gb401, 3, none⟩) (Kd.R_far (p := ⟨gb401, 2, none⟩) (Kd.R_far (p := ⟨gb401, 1, none⟩) (Kd.R_far (p := ⟨gb401, 0, none⟩) (Kd.R_types (Kd.R_types HO394.out BK401.out (by decide)) BK402.out (by decide)) (fun _ hk => hk.1.2) (.int .u64 t389)) (fun _ hk => hk.1.2) (.int .u64 t390)) (fun _ hk => hk.1.2) (.int .i64 t391)) (fun _ hk => hk.1.2) (.slice Ao17 t392.length co17)) (fun _ hk => hk.2) (.int .u64 t395)) (fun _ hk => hk.2) (.int .u64 t396)) (fun _ hk => hk.2) (.int .i64 t397)) (fun _ hk => hk.2) (.slice Ao22 t398.length co22)) (fun _ h_ => h_.1)) (fun _ h_ => h_.1)))) hb); replace HO400 := am (Kd.R_below (pr ((Kd.R_mono (Kd.R_mono (Kd.R_far (p := ⟨gb402, 3, none⟩) (Kd.R_far (p := ⟨gb402, 2, none⟩) (Kd.R_far (p := ⟨gb402, 1, none⟩) (Kd.R_far (p := ⟨gb402, 0, none⟩) (Kd.R_far (p := ⟨gb401, 3, none⟩) (Kd.R_far (p := ⟨gb401, 2, none⟩) (Kd.R_far (p := ⟨gb401, 1, none⟩) (Kd.R_far (p := ⟨gb401, 0, none⟩) (Kd.R_types (Kd.R_types HO400.out BK401.out (by decide)) BK402.out (by decide)) (fun _ hk => hk.1.2) (.int .u64 t389)) (fun _ hk => hk.1.2) (.int .u64 t390)) (fun _ hk => hk.1.2) (.int .i64 t391)) (fun _ hk => hk.1.2) (.slice Ao17 t392.length co17)) (fun _ hk => hk.2) (.int .u64 t395)) (fun _ hk => hk.2) (.int .u64 t396)) (fun _ hk => hk.2) (.int .i64 t397)) (fun _ hk => hk.2) (.slice Ao22 t398.length co22)) (fun _ h_ => h_.1)) (fun _ h_ => h_.1)))) hb); replace BK387 := am (blk_below (g := gb387) (o := .cells #[.int .u64 a0_0, .int .u64 a0_1, .int .i64 a0_2, .slice A0_3 l0_3.length c0_3] 27 (0, 0)) (by refine pk ?_; refine blk_far ?_ NB387_402.out _; refine pk ?_; refine blk_far ?_ NB387_402.out _; refine pk ?_; refine blk_far ?_ NB387_402.out _; refine pk ?_; refine blk_far ?_ NB387_402.out _; refine pk ?_; refine blk_far ?_ NB387_401.out _; refine pk ?_; refine blk_far ?_ NB387_401.out _; refine pk ?_; refine blk_far ?_ NB387_401.out _; refine pk ?_; refine blk_far ?_ NB387_401.out _; refine pk ?_; exact BK387.out) hb); replace BK388 := am (blk_below (g := gb388) (o := .cells #[.int .u64 a1_0, .int .u64 a1_1, .int .i64 a1_2, .slice A1_3 l1_3.length c1_3] 27 (0, 0)) (by refine pk ?_; refine blk_far ?_ NB388_402.out _; refine pk ?_; refine blk_far ?_ NB388_402.out _; refine pk ?_; refine blk_far ?_ NB388_402.out _; refine pk ?_; refine blk_far ?_ NB388_402.out _; refine pk ?_; refine blk_far ?_ NB388_401.out _; refine pk ?_; refine blk_far ?_ NB388_401.out _; refine pk ?_; refine blk_far ?_ NB388_401.out _; refine pk ?_; refine blk_far ?_ NB388_401.out _; refine pk ?_; exact BK388.out) hb); replace BK401 := am (blk_below (g := gb401) (o := .cells #[.int .u64 t389, .int .u64 t390, .int .i64 t391, .slice Ao17 t392.length co17] 30 (0, 0)) (by refine pk ?_; refine blk_far ?_ NB401_402.out _; refine pk ?_; refine blk_far ?_ NB401_402.out _; refine pk ?_; refine blk_far ?_ NB401_402.out _; refine pk ?_; refine blk_far ?_ NB401_402.out _; refine pk ?_; refine blk_put (cs := #[.int .u64 t389, .int .u64 t390, .int .i64 t391, .slice none 0 0]) ?_ 3 _ rfl; refine pk ?_; refine blk_put (cs := #[.int .u64 t389, .int .u64 t390, .int .i64 0, .slice none 0 0]) ?_ 2 _ rfl; refine pk ?_; refine blk_put (cs := #[.int .u64 t389, .int .u64 0, .int .i64 0, .slice none 0 0]) ?_ 1 _ rfl; refine pk ?_; refine blk_put (cs := #[.int .u64 0, .int .u64 0, .int .i64 0, .slice none 0 0]) ?_ 0 _ rfl; refine pk ?_; exact BK401.out) hb); replace BK402 := am (blk_below (g := gb402) (o := .cells #[.int .u64 t395, .int .u64 t396, .int .i64 t397, .slice Ao22 t398.length co22] 30 (0, 0)) (by refine pk ?_; refine blk_put (cs := #[.int .u64 t395, .int .u64 t396, .int .i64 t397, .slice none 0 0]) ?_ 3 _ rfl; refine pk ?_; refine blk_put (cs := #[.int .u64 t395, .int .u64 t396, .int .i64 0, .slice none 0 0]) ?_ 2 _ rfl; refine pk ?_; refine blk_put (cs := #[.int .u64 t395, .int .u64 0, .int .i64 0, .slice none 0 0]) ?_ 1 _ rfl; refine pk ?_; refine blk_put (cs := #[.int .u64 0, .int .u64 0, .int .i64 0, .slice none 0 0]) ?_ 0 _ rfl; refine pk ?_; refine blk_far ?_ NB402_401.out _; refine pk ?_; refine blk_far ?_ NB402_401.out _; refine pk ?_; refine blk_far ?_ NB402_401.out _; refine pk ?_; refine blk_far ?_ NB402_401.out _; refine pk ?_; exact BK402.out) hb); replace HB := am (below_step (pb HB) hb); (try clear hb); (try clear hb2); (try clear hk); (try clear hi)))
    go_meet
    case rel => exact ⟨_, (true), (by first | rfl | (simp; done) | (simp [*]; done)), H', ⟨by first | omega | exact Nat.le_refl _⟩, ⟨pr HO394.out⟩, ⟨pr HO400.out⟩, ⟨pk BK387.out⟩, ⟨pk BK388.out⟩, ⟨pk BK401.out⟩, ⟨pk BK402.out⟩, ⟨pb HB⟩⟩
  case rest =>
   clear HC5
   try clear c1
   try clear c2
   try clear p2
   try clear c3
   try clear c9
   try clear c10
   try clear c25
   try clear c27
   try clear c28
   try clear c29
   try clear c32
   try clear c33
   try clear c36
   try clear c37
   try clear c38
   try clear hcz30_0 hcz30_1 hcz30_2 hcz30_3
   try clear hcz34_0 hcz34_1 hcz34_2 hcz34_3
   try clear hcz39_0 hcz39_1 hcz39_2 hcz39_3
   try clear hfz30_0 hfz30_1 hfz30_2 hfz30_3
   try clear hfz34_0 hfz34_1 hfz34_2 hfz34_3
   try clear hfz39_0 hfz39_1 hfz39_2 hfz39_3
   obtain ⟨kq, x23_4, rfl, HA, HJ4, HO_402003, HO_403003, BK387, BK388, BK401, BK402, HB⟩ := hcut
   cases kq with
   | zero => exact absurd HA.out (by simp [l14_BottomMerges.j0])
   | succ kj4 =>
    have H := HA.out
    clear HA
    simp only [l14_BottomMerges.j0] at H
    by_cases c41 : x23_4 = true
    ·subst c41
     have H1 : ((l14_awake.f kj4).bind fun t405 => (some t405)) = some r := by rw [if_pos rfl] at H; exact H
     clear H
     have H := H1
     clear H1
     replace H := Option.bind_eq_some_iff.mp H
     obtain ⟨t405, A420, H⟩ := H
     try dsimp only at H
     have A42 := am A420
     clear A420
     obtain rfl := Option.some.inj H
     go_wp2_with (first | ((with_reducible refine gate_callee (f := 11) rfl ?_); refine gl (some 24) Try.func11 #[] ?_; (with_reducible refine (l14_awake.calls kj4  t405 hrT _ A42.out).mono ?_); rintro e w43 ⟨rfl, hb⟩; refine ⟨_, rfl, ?_⟩; replace HO_402003 := am (Kd.R_below (pr HO_402003.out) hb); replace HO_403003 := am (Kd.R_below (pr HO_403003.out) hb); replace BK387 := am (blk_below (pk BK387.out) hb); replace BK388 := am (blk_below (pk BK388.out) hb); replace BK401 := am (blk_below (pk BK401.out) hb); replace BK402 := am (blk_below (pk BK402.out) hb); replace HB := am (below_step (pb HB) hb); (try clear hb); (try clear hb2); (try clear hk); (try clear hi)))
     go_ret
     exact ⟨by first | rfl | (simp [errW_none, errW_some] <;> rfl) | (simp [*, errW_none, errW_some] <;> rfl), pb HB⟩
    ·replace c41 := Bool.eq_false_iff.mpr c41
     subst c41
     have H1 : ((bottom_Merge.f kj4 a0_0 a0_1 a0_2 l0_3 a1_0 a1_1 a1_2 l1_3).bind fun bt406 => ((l14_same.f kj4 bt406.1 bt406.2.1 bt406.2.2.1 bt406.2.2.2.1 0 0 0 ([] : List (S60))).bind fun t414 => ((r14_Right.f kj4 t389 t390 t391 t392).bind fun t415 => (if t415 = true then ((r14_Right.f kj4 t395 t396 t397 t398).bind fun t416 => (l14_BottomMerges.j1 kj4 bt406.2.2.2.2 t414 (!t416) a0_0 a0_1 a0_2 l0_3 a1_0 a1_1 a1_2 l1_3 t389 t390 t391 t392 t395 t396 t397 t398 bt406.1 bt406.2.1 bt406.2.2.1 bt406.2.2.2.1)) else (l14_BottomMerges.j1 kj4 bt406.2.2.2.2 t414 true a0_0 a0_1 a0_2 l0_3 a1_0 a1_1 a1_2 l1_3 t389 t390 t391 t392 t395 t396 t397 t398 bt406.1 bt406.2.1 bt406.2.2.1 bt406.2.2.2.1))))) = some r := by rw [if_neg (show ¬ (false = true) by decide)] at H; exact H
     clear H
     have H := H1
     clear H1
     replace H := Option.bind_eq_some_iff.mp H
     obtain ⟨⟨t406, t407, t408, t409, t412⟩, A440, H⟩ := H
     try dsimp only at H
     have A44 := am A440
     clear A440
     replace H := Option.bind_eq_some_iff.mp H
     obtain ⟨t414, A450, H⟩ := H
     try dsimp only at H
     have A45 := am A450
     clear A450
     have HC46 := am H
     clear H
     have hnb47 := NB387_388.out
     have hnc47 := NB388_387.out
     have hnb48 := NB387_401.out
     have hnc48 := NB401_387.out
     have hnb49 := NB387_402.out
     have hnc49 := NB402_387.out
     have hcz50_0 := ce BK387 0
     have hcz50_1 := ce BK387 1
     have hcz50_2 := ce BK387 2
     have hcz50_3 := ce BK387 3
     have hfz50_0 := fz BK387 0
     have hfz50_1 := fz BK387 1
     have hfz50_2 := fz BK387 2
     have hfz50_3 := fz BK387 3
     have hnb51 := NB388_401.out
     have hnc51 := NB401_388.out
     have hnb52 := NB388_402.out
     have hnc52 := NB402_388.out
     have hcz53_0 := ce BK388 0
     have hcz53_1 := ce BK388 1
     have hcz53_2 := ce BK388 2
     have hcz53_3 := ce BK388 3
     have hfz53_0 := fz BK388 0
     have hfz53_1 := fz BK388 1
     have hfz53_2 := fz BK388 2
     have hfz53_3 := fz BK388 3
     go_upto_region 6 with (first | ((with_reducible refine gate_callee (f := 12) rfl ?_); refine gl (some 28) Try.func12 #[.agg #[.int .u64 a0_0, .int .u64 a0_1, .int .i64 a0_2, .slice A0_3 l0_3.length c0_3], .agg #[.int .u64 a1_0, .int .u64 a1_1, .int .i64 a1_2, .slice A1_3 l1_3.length c1_3]] ?_; (with_reducible refine (bottom_Merge.calls kj4 a0_0 a0_1 a0_2 (fun k_ => k_ < w.heap.size) _ _ l0_3 a1_0 a1_1 a1_2 _ _ l1_3 t406 t407 t408 t409 t412 _ ?side1 ?side2 ?side3 A44.out).mono ?_); (case side1 => exact Kd.V_mk HC0_3.out (Kd.F_below (Kd.C_F k62_heap HR0_3.out) (pb HB))); (case side2 => repeat (first | exact (Kd.C_below HR1_3.out HB.out) | (with_reducible refine Kd.C_alloc ?_ _) | (with_reducible refine Kd.C_drewN ?_ _) | (with_reducible refine Kd.C_drew ?_))); (case side3 => exact HC1_3.out); rintro e w54 ⟨v410, rfl, ho0, hb⟩; refine ⟨_, rfl, ?_⟩; have n0_ := am (Kd.R_below (pr HO_402003.out) hb); have n1_ := am (Kd.R_below (pr HO_403003.out) hb); have n2_ := am (Kd.V_lower (Kd.V_mono (ok' := fun k_ => some k_ ≠ (.slice Ao17 t392.length co17 : Value).ownBlock ∧ some k_ ≠ (.slice Ao22 t398.length co22 : Value).ownBlock ∧ k_ ≠ gb387 ∧ k_ ≠ gb388 ∧ k_ ≠ gb401 ∧ k_ ≠ gb402) ho0 (fun k_ hk_ => ⟨Or.elim hk_ (fun hs_ => fun e_ => Nat.not_le.2 hs_ (Kd.R_base HO_402003.out k_ e_.symm)) (fun hn_ => (Kd.fresh' (Kd.R_lt (pr HO_402003.out)) k_ hn_)), Or.elim hk_ (fun hs_ => fun e_ => Nat.not_le.2 hs_ (Kd.R_base HO_403003.out k_ e_.symm)) (fun hn_ => (Kd.fresh' (Kd.R_lt (pr HO_403003.out)) k_ hn_)), Or.elim hk_ (fun hs_ => fun e_ => Nat.not_le.2 hs_ (by rw [e_]; exact GW387.out)) (fun hn_ => (Kd.freshB (g := gb387) (o := .cells #[.int .u64 a0_0, .int .u64 a0_1, .int .i64 a0_2, .slice A0_3 l0_3.length c0_3] 27 (0, 0)) (pk BK387.out) k_ hn_)), Or.elim hk_ (fun hs_ => fun e_ => Nat.not_le.2 hs_ (by rw [e_]; exact GW388.out)) (fun hn_ => (Kd.freshB (g := gb388) (o := .cells #[.int .u64 a1_0, .int .u64 a1_1, .int .i64 a1_2, .slice A1_3 l1_3.length c1_3] 27 (0, 0)) (pk BK388.out) k_ hn_)), Or.elim hk_ (fun hs_ => fun e_ => Nat.not_le.2 hs_ (by rw [e_]; exact GW401.out)) (fun hn_ => (Kd.freshB (g := gb401) (o := .cells #[.int .u64 t389, .int .u64 t390, .int .i64 t391, .slice Ao17 t392.length co17] 30 (0, 0)) (pk BK401.out) k_ hn_)), Or.elim hk_ (fun hs_ => fun e_ => Nat.not_le.2 hs_ (by rw [e_]; exact GW402.out)) (fun hn_ => (Kd.freshB (g := gb402) (o := .cells #[.int .u64 t395, .int .u64 t396, .int .i64 t397, .slice Ao22 t398.length co22] 30 (0, 0)) (pk BK402.out) k_ hn_))⟩)) (below_size (pb HB))); have n3_ := am (blk_below (pk BK387.out) hb); have n4_ := am (blk_below (pk BK388.out) hb); have n5_ := am (blk_below (pk BK401.out) hb); have n6_ := am (blk_below (pk BK402.out) hb); have n7_ := am (below_step (pb HB) hb); clear HO_402003; clear HO_403003; clear BK387; clear BK388; clear BK401; clear BK402; clear HB; have HO_402003 := n0_; have HO_403003 := n1_; have HO411 := n2_; have BK387 := n3_; have BK388 := n4_; have BK401 := n5_; have BK402 := n6_; have HB := n7_; clear n0_ n1_ n2_ n3_ n4_ n5_ n6_ n7_; (try clear hb); (try clear hb2); (try clear hk); (try clear hi); (try clear ho0)) | ((with_reducible refine gate_dst (N := 7) rfl ?_); refine be 7 #[.int .u64 0, .int .u64 0, .int .i64 0, .slice none 0 0] 27 ?_; intro gb413 hg w55 hbox hb; have n0_ := am (Kd.R_below (pr HO_402003.out) hb); have n1_ := am (Kd.R_below (pr HO_403003.out) hb); have n2_ := am (Kd.V_below (Kd.V_elderB (pv HO411.out) gb413 (Nat.le_of_eq hg.symm)) hb); have n3_ := am (blk_below (pk BK387.out) hb); have n4_ := am (blk_below (pk BK388.out) hb); have n5_ := am (blk_below (pk BK401.out) hb); have n6_ := am (blk_below (pk BK402.out) hb); have n7_ := am (below_step (pb HB) hb); have n8_ := am (hbox); have n9_ := am ((pg hg HB : w.heap.size ≤ gb413)); have n10_ := am ((pg hg HB : w.heap.size ≤ gb413)); have n11_ := am ((pl hg (pk BK387.out) : gb387 ≠ gb413)); have n12_ := am ((pl' hg (pk BK387.out) : gb413 ≠ gb387)); have n13_ := am ((pl hg (pk BK388.out) : gb388 ≠ gb413)); have n14_ := am ((pl' hg (pk BK388.out) : gb413 ≠ gb388)); have n15_ := am ((pl hg (pk BK401.out) : gb401 ≠ gb413)); have n16_ := am ((pl' hg (pk BK401.out) : gb413 ≠ gb401)); have n17_ := am ((pl hg (pk BK402.out) : gb402 ≠ gb413)); have n18_ := am ((pl' hg (pk BK402.out) : gb413 ≠ gb402)); clear HO_402003; clear HO_403003; clear HO411; clear BK387; clear BK388; clear BK401; clear BK402; clear HB; have HO_402003 := n0_; have HO_403003 := n1_; have HO411 := n2_; have BK387 := n3_; have BK388 := n4_; have BK401 := n5_; have BK402 := n6_; have HB := n7_; have BK413 := n8_; have GW413 := n9_; have GE413 := n10_; have NB387_413 := n11_; have NB413_387 := n12_; have NB388_413 := n13_; have NB413_388 := n14_; have NB401_413 := n15_; have NB413_401 := n16_; have NB402_413 := n17_; have NB413_402 := n18_; clear n0_ n1_ n2_ n3_ n4_ n5_ n6_ n7_ n8_ n9_ n10_ n11_ n12_ n13_ n14_ n15_ n16_ n17_ n18_; clear hb hbox hg; have hnb56 := NB413_387.out; have hnc56 := NB387_413.out; have hnb57 := NB413_388.out; have hnc57 := NB388_413.out; have hnb58 := NB413_401.out; have hnc58 := NB401_413.out; have hnb59 := NB413_402.out; have hnc59 := NB402_413.out; have hcz60_0 := ce BK413 0; have hcz60_1 := ce BK413 1; have hcz60_2 := ce BK413 2; have hcz60_3 := ce BK413 3; have hfz60_0 := fz BK413 0; have hfz60_1 := fz BK413 1; have hfz60_2 := fz BK413 2; have hfz60_3 := fz BK413 3; obtain ⟨Ao61, co61, eo61⟩ := Kd.V_slice HO411.out; subst eo61) | ((with_reducible refine gate_callee (f := 13) rfl ?_); refine gl (some 33) Try.func13 #[.agg #[.int .u64 t406, .int .u64 t407, .int .i64 t408, .slice Ao61 t409.length co61], .agg #[.int .u64 0, .int .u64 0, .int .i64 0, .slice none 0 0]] ?_; (refine (l14_same.calls kj4 t406 t407 t408 _ _ t409 0 0 0 _ _ ([] : List (S60)) t414 _ ?side1 ?side2 ?side3 ?side4 A45.out).mono ?_); (case side1 => refine (Kd.V_reads' (e := 62) (base := w.heap.size) (ok := fun k_ => ((some k_ ≠ (.slice Ao17 t392.length co17 : Value).ownBlock ∧ (some k_ ≠ (.slice Ao22 t398.length co22 : Value).ownBlock ∧ (k_ ≠ gb387 ∧ (k_ ≠ gb388 ∧ (k_ ≠ gb401 ∧ k_ ≠ gb402))))) ∧ k_ ≠ gb413)) (n := t409.length) (c := co61) ?_).2.2; exact (pv ((Kd.V_mono (Kd.V_far (p := ⟨gb413, 3, none⟩) (Kd.V_far (p := ⟨gb413, 2, none⟩) (Kd.V_far (p := ⟨gb413, 1, none⟩) (Kd.V_far (p := ⟨gb413, 0, none⟩) (Kd.V_mono HO411.out (fun k_ hk => (⟨hk, hk.2⟩ : _ ∧ k_ ≠ gb413))) (fun _ hk => hk.2) (.int .u64 t406)) (fun _ hk => hk.2) (.int .u64 t407)) (fun _ hk => hk.2) (.int .i64 t408)) (fun _ hk => hk.2) (.slice Ao61 t409.length co61)) (fun _ h_ => h_.1))))); (case side2 => exact (Kd.V_reads' HO411.out).2.1); (case side3 => exact Kd.C_nil _ _); (case side4 => exact Nat.le_refl _); rintro e w62 ⟨rfl, hb⟩; refine ⟨_, rfl, ?_⟩; replace HO_402003 := am (Kd.R_below (pr ((Kd.R_mono (Kd.R_far (p := ⟨gb413, 3, none⟩) (Kd.R_far (p := ⟨gb413, 2, none⟩) (Kd.R_far (p := ⟨gb413, 1, none⟩) (Kd.R_far (p := ⟨gb413, 0, none⟩) (Kd.R_types HO_402003.out BK413.out (by decide)) (fun _ hk => hk.2) (.int .u64 t406)) (fun _ hk => hk.2) (.int .u64 t407)) (fun _ hk => hk.2) (.int .i64 t408)) (fun _ hk => hk.2) (.slice Ao61 t409.length co61)) (fun _ h_ => h_.1)))) hb); replace HO_403003 := am (Kd.R_below (pr ((Kd.R_mono (Kd.R_far (p := ⟨gb413, 3, none⟩) (Kd.R_far (p := ⟨gb413, 2, none⟩) (Kd.R_far (p := ⟨gb413, 1, none⟩) (Kd.R_far (p := ⟨gb413, 0, none⟩) (Kd.R_types HO_403003.out BK413.out (by decide)) (fun _ hk => hk.2) (.int .u64 t406)) (fun _ hk => hk.2) (.int .u64 t407)) (fun _ hk => hk.2) (.int .i64 t408)) (fun _ hk => hk.2) (.slice Ao61 t409.length co61)) (fun _ h_ => h_.1)))) hb); replace HO411 := am (Kd.V_below (pv ((Kd.V_mono (Kd.V_far (p := ⟨gb413, 3, none⟩) (Kd.V_far (p := ⟨gb413, 2, none⟩) (Kd.V_far (p := ⟨gb413, 1, none⟩) (Kd.V_far (p := ⟨gb413, 0, none⟩) (Kd.V_mono HO411.out (fun k_ hk => (⟨hk, hk.2⟩ : _ ∧ k_ ≠ gb413))) (fun _ hk => hk.2) (.int .u64 t406)) (fun _ hk => hk.2) (.int .u64 t407)) (fun _ hk => hk.2) (.int .i64 t408)) (fun _ hk => hk.2) (.slice Ao61 t409.length co61)) (fun _ h_ => h_.1)))) hb); replace BK387 := am (blk_below (g := gb387) (o := .cells #[.int .u64 a0_0, .int .u64 a0_1, .int .i64 a0_2, .slice A0_3 l0_3.length c0_3] 27 (0, 0)) (by refine pk ?_; refine blk_far ?_ NB387_413.out _; refine pk ?_; refine blk_far ?_ NB387_413.out _; refine pk ?_; refine blk_far ?_ NB387_413.out _; refine pk ?_; refine blk_far ?_ NB387_413.out _; refine pk ?_; exact BK387.out) hb); replace BK388 := am (blk_below (g := gb388) (o := .cells #[.int .u64 a1_0, .int .u64 a1_1, .int .i64 a1_2, .slice A1_3 l1_3.length c1_3] 27 (0, 0)) (by refine pk ?_; refine blk_far ?_ NB388_413.out _; refine pk ?_; refine blk_far ?_ NB388_413.out _; refine pk ?_; refine blk_far ?_ NB388_413.out _; refine pk ?_; refine blk_far ?_ NB388_413.out _; refine pk ?_; exact BK388.out) hb); replace BK401 := am (blk_below (g := gb401) (o := .cells #[.int .u64 t389, .int .u64 t390, .int .i64 t391, .slice Ao17 t392.length co17] 30 (0, 0)) (by refine pk ?_; refine blk_far ?_ NB401_413.out _; refine pk ?_; refine blk_far ?_ NB401_413.out _; refine pk ?_; refine blk_far ?_ NB401_413.out _; refine pk ?_; refine blk_far ?_ NB401_413.out _; refine pk ?_; exact BK401.out) hb); replace BK402 := am (blk_below (g := gb402) (o := .cells #[.int .u64 t395, .int .u64 t396, .int .i64 t397, .slice Ao22 t398.length co22] 30 (0, 0)) (by refine pk ?_; refine blk_far ?_ NB402_413.out _; refine pk ?_; refine blk_far ?_ NB402_413.out _; refine pk ?_; refine blk_far ?_ NB402_413.out _; refine pk ?_; refine blk_far ?_ NB402_413.out _; refine pk ?_; exact BK402.out) hb); replace BK413 := am (blk_below (g := gb413) (o := .cells #[.int .u64 t406, .int .u64 t407, .int .i64 t408, .slice Ao61 t409.length co61] 27 (0, 0)) (by refine pk ?_; refine blk_put (cs := #[.int .u64 t406, .int .u64 t407, .int .i64 t408, .slice none 0 0]) ?_ 3 _ rfl; refine pk ?_; refine blk_put (cs := #[.int .u64 t406, .int .u64 t407, .int .i64 0, .slice none 0 0]) ?_ 2 _ rfl; refine pk ?_; refine blk_put (cs := #[.int .u64 t406, .int .u64 0, .int .i64 0, .slice none 0 0]) ?_ 1 _ rfl; refine pk ?_; refine blk_put (cs := #[.int .u64 0, .int .u64 0, .int .i64 0, .slice none 0 0]) ?_ 0 _ rfl; refine pk ?_; exact BK413.out) hb); replace HB := am (below_step (pb HB) hb); (try clear hb); (try clear hb2); (try clear hk); (try clear hi)))
     (try simp only [Act.put, List.setIfInBounds_toArray, List.set_cons_zero, List.set_cons_succ])
     go_cut [34] (fun v34 wc => ∃ (kq : Nat) (x34_45 : Bool), v34 = .bool x34_45 ∧ Aside0 (l14_BottomMerges.j1 kq t412 t414 x34_45 a0_0 a0_1 a0_2 l0_3 a1_0 a1_1 a1_2 l1_3 t389 t390 t391 t392 t395 t396 t397 t398 t406 t407 t408 t409 = some r) ∧ Aside0 (kq ≤ kj4) ∧ Aside0 (Kd.R k60 60 wc w.heap.size (fun k_ => some k_ ≠ ((.slice Ao22 t398.length co22) : Value).ownBlock) (.slice Ao17 t392.length co17) t392) ∧ Aside0 (Kd.R k60 60 wc w.heap.size (fun k_ => some k_ ≠ ((.slice Ao17 t392.length co17) : Value).ownBlock) (.slice Ao22 t398.length co22) t398) ∧ Aside0 (Kd.V k62 62 wc w.heap.size (fun k_ => some k_ ≠ ((.slice Ao17 t392.length co17) : Value).ownBlock ∧ some k_ ≠ ((.slice Ao22 t398.length co22) : Value).ownBlock ∧ k_ ≠ gb387 ∧ k_ ≠ gb388 ∧ k_ ≠ gb401 ∧ k_ ≠ gb402 ∧ k_ ≠ gb413) (.slice Ao61 t409.length co61) t409) ∧ Aside0 (wc.heap[gb387]? = some (.cells #[.int .u64 a0_0, .int .u64 a0_1, .int .i64 a0_2, (.slice A0_3 l0_3.length c0_3)] 27 (0, 0))) ∧ Aside0 (wc.heap[gb388]? = some (.cells #[.int .u64 a1_0, .int .u64 a1_1, .int .i64 a1_2, (.slice A1_3 l1_3.length c1_3)] 27 (0, 0))) ∧ Aside0 (wc.heap[gb401]? = some (.cells #[.int .u64 t389, .int .u64 t390, .int .i64 t391, (.slice Ao17 t392.length co17)] 30 (0, 0))) ∧ Aside0 (wc.heap[gb402]? = some (.cells #[.int .u64 t395, .int .u64 t396, .int .i64 t397, (.slice Ao22 t398.length co22)] 30 (0, 0))) ∧ Aside0 (wc.heap[gb413]? = some (.cells #[.int .u64 t406, .int .u64 t407, .int .i64 t408, (.slice Ao61 t409.length co61)] 27 (0, 0))) ∧ Aside0 (Below w.heap.size w wc))
     case first =>
      have H := HC46.out
      clear HC46
      replace H := Option.bind_eq_some_iff.mp H
      obtain ⟨t415, A630, H⟩ := H
      try dsimp only at H
      have A63 := am A630
      clear A630
      by_cases c64 : t415 = true
      ·subst c64
       have H1 : ((r14_Right.f kj4 t395 t396 t397 t398).bind fun t416 => (l14_BottomMerges.j1 kj4 t412 t414 (!t416) a0_0 a0_1 a0_2 l0_3 a1_0 a1_1 a1_2 l1_3 t389 t390 t391 t392 t395 t396 t397 t398 t406 t407 t408 t409)) = some r := by rw [if_pos rfl] at H; exact H
       clear H
       have H := H1
       clear H1
       replace H := Option.bind_eq_some_iff.mp H
       obtain ⟨t416, A650, H⟩ := H
       try dsimp only at H
       have A65 := am A650
       clear A650
       have H' := am H
       clear H
       have hnb66 := NB401_387.out
       have hnc66 := NB387_401.out
       have hnb67 := NB401_388.out
       have hnc67 := NB388_401.out
       have hnb68 := NB401_402.out
       have hnc68 := NB402_401.out
       have hnb69 := NB401_413.out
       have hnc69 := NB413_401.out
       have hcz70_0 := ce BK401 0
       have hcz70_1 := ce BK401 1
       have hcz70_2 := ce BK401 2
       have hcz70_3 := ce BK401 3
       have hfz70_0 := fz BK401 0
       have hfz70_1 := fz BK401 1
       have hfz70_2 := fz BK401 2
       have hfz70_3 := fz BK401 3
       go_wp2_with (first | ((with_reducible refine gate_callee (f := 14) rfl ?_); refine gl (some 36) Try.func14 #[.agg #[.int .u64 t389, .int .u64 t390, .int .i64 t391, .slice Ao17 t392.length co17]] ?_; (with_reducible refine (r14_Right.calls kj4 t389 t390 t391 _ _ t392 true _ ?side1 ?side2 A63.out).mono ?_); (case side1 => repeat (first | exact (Kd.R_reads' HO_402003.out).2.2 | (with_reducible refine Kd.C_alloc ?_ _) | (with_reducible refine Kd.C_drewN ?_ _) | (with_reducible refine Kd.C_drew ?_))); (case side2 => exact (Kd.R_reads' HO_402003.out).2.1); rintro e w71 ⟨rfl, hb⟩; refine ⟨_, rfl, ?_⟩; replace HO_402003 := am (Kd.R_below (pr HO_402003.out) hb); replace HO_403003 := am (Kd.R_below (pr HO_403003.out) hb); replace HO411 := am (Kd.V_below (pv HO411.out) hb); replace BK387 := am (blk_below (pk BK387.out) hb); replace BK388 := am (blk_below (pk BK388.out) hb); replace BK401 := am (blk_below (pk BK401.out) hb); replace BK402 := am (blk_below (pk BK402.out) hb); replace BK413 := am (blk_below (pk BK413.out) hb); replace HB := am (below_step (pb HB) hb); (try clear hb); (try clear hb2); (try clear hk); (try clear hi); have hnb72 := NB402_387.out; have hnc72 := NB387_402.out; have hnb73 := NB402_388.out; have hnc73 := NB388_402.out; have hnb74 := NB402_413.out; have hnc74 := NB413_402.out; have hcz75_0 := ce BK402 0; have hcz75_1 := ce BK402 1; have hcz75_2 := ce BK402 2; have hcz75_3 := ce BK402 3; have hfz75_0 := fz BK402 0; have hfz75_1 := fz BK402 1; have hfz75_2 := fz BK402 2; have hfz75_3 := fz BK402 3) | (go_at_call 14; (with_reducible refine (r14_Right.calls kj4 t395 t396 t397 _ _ t398 t416 _ ?side1 ?side2 A65.out).mono ?_); (case side1 => repeat (first | exact (Kd.R_reads' HO_403003.out).2.2 | (with_reducible refine Kd.C_alloc ?_ _) | (with_reducible refine Kd.C_drewN ?_ _) | (with_reducible refine Kd.C_drew ?_))); (case side2 => exact (Kd.R_reads' HO_403003.out).2.1); rintro e w76 ⟨rfl, hb⟩; replace HO_402003 := am (Kd.R_below (pr HO_402003.out) hb); replace HO_403003 := am (Kd.R_below (pr HO_403003.out) hb); replace HO411 := am (Kd.V_below (pv HO411.out) hb); replace BK387 := am (blk_below (pk BK387.out) hb); replace BK388 := am (blk_below (pk BK388.out) hb); replace BK401 := am (blk_below (pk BK401.out) hb); replace BK402 := am (blk_below (pk BK402.out) hb); replace BK413 := am (blk_below (pk BK413.out) hb); replace HB := am (below_step (pb HB) hb); (try clear hb); (try clear hb2); (try clear hk); (try clear hi)))
       go_meet
       case rel => exact ⟨_, (!t416), (by first | rfl | (simp; done) | (simp [*]; done)), H', ⟨by have := HJ4.out; first | omega | exact Nat.le_refl _⟩, ⟨pr HO_402003.out⟩, ⟨pr HO_403003.out⟩, ⟨by refine pv ?_; exact Kd.V_mono HO411.out (fun _ hk => ⟨hk.1.1, ⟨hk.1.2.1, ⟨hk.1.2.2.1, ⟨hk.1.2.2.2.1, ⟨hk.1.2.2.2.2.1, ⟨hk.1.2.2.2.2.2, hk.2⟩⟩⟩⟩⟩⟩)⟩, ⟨pk BK387.out⟩, ⟨pk BK388.out⟩, ⟨pk BK401.out⟩, ⟨pk BK402.out⟩, ⟨pk BK413.out⟩, ⟨pb HB⟩⟩
      ·replace c64 := Bool.eq_false_iff.mpr c64
       subst c64
       have H1 : (l14_BottomMerges.j1 kj4 t412 t414 true a0_0 a0_1 a0_2 l0_3 a1_0 a1_1 a1_2 l1_3 t389 t390 t391 t392 t395 t396 t397 t398 t406 t407 t408 t409) = some r := by rw [if_neg (show ¬ (false = true) by decide)] at H; exact H
       clear H
       have H := H1
       clear H1
       have H' := am H
       clear H
       have hnb77 := NB401_387.out
       have hnc77 := NB387_401.out
       have hnb78 := NB401_388.out
       have hnc78 := NB388_401.out
       have hnb79 := NB401_402.out
       have hnc79 := NB402_401.out
       have hnb80 := NB401_413.out
       have hnc80 := NB413_401.out
       have hcz81_0 := ce BK401 0
       have hcz81_1 := ce BK401 1
       have hcz81_2 := ce BK401 2
       have hcz81_3 := ce BK401 3
       have hfz81_0 := fz BK401 0
       have hfz81_1 := fz BK401 1
       have hfz81_2 := fz BK401 2
       have hfz81_3 := fz BK401 3
       go_wp2_with (first | ((with_reducible refine gate_callee (f := 14) rfl ?_); refine gl (some 36) Try.func14 #[.agg #[.int .u64 t389, .int .u64 t390, .int .i64 t391, .slice Ao17 t392.length co17]] ?_; (with_reducible refine (r14_Right.calls kj4 t389 t390 t391 _ _ t392 false _ ?side1 ?side2 A63.out).mono ?_); (case side1 => repeat (first | exact (Kd.R_reads' HO_402003.out).2.2 | (with_reducible refine Kd.C_alloc ?_ _) | (with_reducible refine Kd.C_drewN ?_ _) | (with_reducible refine Kd.C_drew ?_))); (case side2 => exact (Kd.R_reads' HO_402003.out).2.1); rintro e w82 ⟨rfl, hb⟩; refine ⟨_, rfl, ?_⟩; replace HO_402003 := am (Kd.R_below (pr HO_402003.out) hb); replace HO_403003 := am (Kd.R_below (pr HO_403003.out) hb); replace HO411 := am (Kd.V_below (pv HO411.out) hb); replace BK387 := am (blk_below (pk BK387.out) hb); replace BK388 := am (blk_below (pk BK388.out) hb); replace BK401 := am (blk_below (pk BK401.out) hb); replace BK402 := am (blk_below (pk BK402.out) hb); replace BK413 := am (blk_below (pk BK413.out) hb); replace HB := am (below_step (pb HB) hb); (try clear hb); (try clear hb2); (try clear hk); (try clear hi)))
       go_meet
       case rel => exact ⟨_, (true), (by first | rfl | (simp; done) | (simp [*]; done)), H', ⟨by have := HJ4.out; first | omega | exact Nat.le_refl _⟩, ⟨pr HO_402003.out⟩, ⟨pr HO_403003.out⟩, ⟨by refine pv ?_; exact Kd.V_mono HO411.out (fun _ hk => ⟨hk.1.1, ⟨hk.1.2.1, ⟨hk.1.2.2.1, ⟨hk.1.2.2.2.1, ⟨hk.1.2.2.2.2.1, ⟨hk.1.2.2.2.2.2, hk.2⟩⟩⟩⟩⟩⟩)⟩, ⟨pk BK387.out⟩, ⟨pk BK388.out⟩, ⟨pk BK401.out⟩, ⟨pk BK402.out⟩, ⟨pk BK413.out⟩, ⟨pb HB⟩⟩
     case rest =>
      clear HC46
      try clear c1
      try clear c2
      try clear p2
      try clear c3
      try clear c4
      try clear c5
      try clear c6
      try clear c7
      try clear c8
      try clear c9
      try clear c10
      try clear c11
      try clear c12
      try clear c13
      try clear c14
      try clear c25
      try clear c27
      try clear c28
      try clear c29
      try clear c32
      try clear c33
      try clear c36
      try clear c37
      try clear c38
      try clear c41
      try clear c47
      try clear c48
      try clear c49
      try clear c51
      try clear c52
      try clear c56
      try clear c57
      try clear c58
      try clear c59
      try clear c64
      try clear c66
      try clear c67
      try clear c68
      try clear c69
      try clear c72
      try clear c73
      try clear c74
      try clear c77
      try clear c78
      try clear c79
      try clear c80
      try clear hcz30_0 hcz30_1 hcz30_2 hcz30_3
      try clear hcz34_0 hcz34_1 hcz34_2 hcz34_3
      try clear hcz39_0 hcz39_1 hcz39_2 hcz39_3
      try clear hcz50_0 hcz50_1 hcz50_2 hcz50_3
      try clear hcz53_0 hcz53_1 hcz53_2 hcz53_3
      try clear hcz60_0 hcz60_1 hcz60_2 hcz60_3
      try clear hcz70_0 hcz70_1 hcz70_2 hcz70_3
      try clear hcz75_0 hcz75_1 hcz75_2 hcz75_3
      try clear hcz81_0 hcz81_1 hcz81_2 hcz81_3
      try clear hfz30_0 hfz30_1 hfz30_2 hfz30_3
      try clear hfz34_0 hfz34_1 hfz34_2 hfz34_3
      try clear hfz39_0 hfz39_1 hfz39_2 hfz39_3
      try clear hfz50_0 hfz50_1 hfz50_2 hfz50_3
      try clear hfz53_0 hfz53_1 hfz53_2 hfz53_3
      try clear hfz60_0 hfz60_1 hfz60_2 hfz60_3
      try clear hfz70_0 hfz70_1 hfz70_2 hfz70_3
      try clear hfz75_0 hfz75_1 hfz75_2 hfz75_3
      try clear hfz81_0 hfz81_1 hfz81_2 hfz81_3
      try clear p2
      obtain ⟨kq, x34_45, rfl, HA, HJ45, HO_402003, HO_403003, HO_414003, BK387, BK388, BK401, BK402, BK413, HB⟩ := hcut
      cases kq with
      | zero => exact absurd HA.out (by simp [l14_BottomMerges.j1])
      | succ kj45 =>
       have H := HA.out
       clear HA
       simp only [l14_BottomMerges.j1] at H
       by_cases c83 : x34_45 = true
       ·subst c83
        have H1 : (if t412 = 1 then (if t414 = true then ((l14_awake.f kj45).bind fun t417 => (some t417)) else (some false)) else (some false)) = some r := by rw [if_pos rfl] at H; exact H
        clear H
        have H := H1
        clear H1
        by_cases c84 : t412 = 1
        ·rw [if_pos c84] at H
         have c84b0 : (t412 == 1) = true := beq_iff_eq.mpr c84
         have c84b1 : (t412 != 1) = false := bne_eq_false_iff_eq.mpr c84
         clear c84
         by_cases c85 : t414 = true
         ·subst c85
          have H1 : ((l14_awake.f kj45).bind fun t417 => (some t417)) = some r := by rw [if_pos rfl] at H; exact H
          clear H
          have H := H1
          clear H1
          replace H := Option.bind_eq_some_iff.mp H
          obtain ⟨t417, A860, H⟩ := H
          try dsimp only at H
          have A86 := am A860
          clear A860
          obtain rfl := Option.some.inj H
          go_wp2_with (first | (go_at_call 11; (with_reducible refine (l14_awake.calls kj45  t417 hrT _ A86.out).mono ?_); rintro e w87 ⟨rfl, hb⟩; replace HO_402003 := am (Kd.R_below (pr HO_402003.out) hb); replace HO_403003 := am (Kd.R_below (pr HO_403003.out) hb); replace HO_414003 := am (Kd.V_below (pv HO_414003.out) hb); replace BK387 := am (blk_below (pk BK387.out) hb); replace BK388 := am (blk_below (pk BK388.out) hb); replace BK401 := am (blk_below (pk BK401.out) hb); replace BK402 := am (blk_below (pk BK402.out) hb); replace BK413 := am (blk_below (pk BK413.out) hb); replace HB := am (below_step (pb HB) hb); (try clear hb); (try clear hb2); (try clear hk); (try clear hi)))
          go_ret
          exact ⟨by first | rfl | (simp [errW_none, errW_some] <;> rfl) | (simp [*, errW_none, errW_some] <;> rfl), pb HB⟩
         ·replace c85 := Bool.eq_false_iff.mpr c85
          subst c85
          have H1 : (some false) = some r := by rw [if_neg (show ¬ (false = true) by decide)] at H; exact H
          exact Bool.noConfusion ((Option.some.inj H1).trans hrT.out)
        ·rw [if_neg c84] at H
         exact Bool.noConfusion ((Option.some.inj H).trans hrT.out)
       ·replace c83 := Bool.eq_false_iff.mpr c83
        subst c83
        have H1 : (if (!(a0_0 == a1_0) || (!(a0_1 == a1_1))) = true then (if t412 = 9 then (if t414 = true then ((l14_awake.f kj45).bind fun t418 => (some t418)) else (some false)) else (some false)) else (if a0_2 = a1_2 then ((r14_Joined.f kj45 a0_0 a0_1 t392 t398 (wrap64 (a0_2 + 1))).bind fun bt420 => (if bt420.2 = true then (if t412 = 0 then ((l14_same.f kj45 t406 t407 t408 t409 a0_0 a0_1 a0_2 bt420.1).bind fun t424 => (if t424 = true then ((l14_awake.f kj45).bind fun t425 => (some t425)) else (some false))) else (some false)) else (if t412 = 12 then (if t414 = true then ((l14_awake.f kj45).bind fun t426 => (some t426)) else (some false)) else (some false)))) else (if t412 = 10 then (if t414 = true then ((l14_awake.f kj45).bind fun t419 => (some t419)) else (some false)) else (some false)))) = some r := by rw [if_neg (show ¬ (false = true) by decide)] at H; exact H
        clear H
        have H := H1
        clear H1
        by_cases c88 : (!(a0_0 == a1_0) || (!(a0_1 == a1_1))) = true
        ·rw [if_pos c88] at H
         have c88b0 : (!(a0_0 == a1_0) || (!(a0_1 == a1_1))) = true := c88
         clear c88
         by_cases c89 : t412 = 9
         ·rw [if_pos c89] at H
          have c89b0 : (t412 == 9) = true := beq_iff_eq.mpr c89
          have c89b1 : (t412 != 9) = false := bne_eq_false_iff_eq.mpr c89
          clear c89
          by_cases c90 : t414 = true
          ·subst c90
           have H1 : ((l14_awake.f kj45).bind fun t418 => (some t418)) = some r := by rw [if_pos rfl] at H; exact H
           clear H
           have H := H1
           clear H1
           replace H := Option.bind_eq_some_iff.mp H
           obtain ⟨t418, A910, H⟩ := H
           try dsimp only at H
           have A91 := am A910
           clear A910
           obtain rfl := Option.some.inj H
           have hnb92 := NB387_388.out
           have hnc92 := NB388_387.out
           have hnb93 := NB387_401.out
           have hnc93 := NB401_387.out
           have hnb94 := NB387_402.out
           have hnc94 := NB402_387.out
           have hnb95 := NB387_413.out
           have hnc95 := NB413_387.out
           have hcz96_0 := ce BK387 0
           have hcz96_1 := ce BK387 1
           have hcz96_2 := ce BK387 2
           have hcz96_3 := ce BK387 3
           have hfz96_0 := fz BK387 0
           have hfz96_1 := fz BK387 1
           have hfz96_2 := fz BK387 2
           have hfz96_3 := fz BK387 3
           have hnb97 := NB388_401.out
           have hnc97 := NB401_388.out
           have hnb98 := NB388_402.out
           have hnc98 := NB402_388.out
           have hnb99 := NB388_413.out
           have hnc99 := NB413_388.out
           have hcz100_0 := ce BK388 0
           have hcz100_1 := ce BK388 1
           have hcz100_2 := ce BK388 2
           have hcz100_3 := ce BK388 3
           have hfz100_0 := fz BK388 0
           have hfz100_1 := fz BK388 1
           have hfz100_2 := fz BK388 2
           have hfz100_3 := fz BK388 3
           go_wp2_with (first | (go_at_call 11; (with_reducible refine (l14_awake.calls kj45  t418 hrT _ A91.out).mono ?_); rintro e w101 ⟨rfl, hb⟩; replace HO_402003 := am (Kd.R_below (pr HO_402003.out) hb); replace HO_403003 := am (Kd.R_below (pr HO_403003.out) hb); replace HO_414003 := am (Kd.V_below (pv HO_414003.out) hb); replace BK387 := am (blk_below (pk BK387.out) hb); replace BK388 := am (blk_below (pk BK388.out) hb); replace BK401 := am (blk_below (pk BK401.out) hb); replace BK402 := am (blk_below (pk BK402.out) hb); replace BK413 := am (blk_below (pk BK413.out) hb); replace HB := am (below_step (pb HB) hb); (try clear hb); (try clear hb2); (try clear hk); (try clear hi)))
           go_ret
           exact ⟨by first | rfl | (simp [errW_none, errW_some] <;> rfl) | (simp [*, errW_none, errW_some] <;> rfl), pb HB⟩
          ·replace c90 := Bool.eq_false_iff.mpr c90
           subst c90
           have H1 : (some false) = some r := by rw [if_neg (show ¬ (false = true) by decide)] at H; exact H
           exact Bool.noConfusion ((Option.some.inj H1).trans hrT.out)
         ·rw [if_neg c89] at H
          exact Bool.noConfusion ((Option.some.inj H).trans hrT.out)
        ·rw [if_neg c88] at H
         have c88b0 : (!(a0_0 == a1_0) || (!(a0_1 == a1_1))) = false := by simpa using c88
         clear c88
         by_cases c120 : a0_2 = a1_2
         ·rw [if_pos c120] at H
          have c120b0 : (a0_2 == a1_2) = true := beq_iff_eq.mpr c120
          have c120b1 : (a0_2 != a1_2) = false := bne_eq_false_iff_eq.mpr c120
          clear c120
          replace H := Option.bind_eq_some_iff.mp H
          obtain ⟨⟨t420, t423⟩, A1210, H⟩ := H
          try dsimp only at H
          have A121 := am A1210
          clear A1210
          by_cases c122 : t423 = true
          ·subst c122
           have H1 : (if t412 = 0 then ((l14_same.f kj45 t406 t407 t408 t409 a0_0 a0_1 a0_2 t420).bind fun t424 => (if t424 = true then ((l14_awake.f kj45).bind fun t425 => (some t425)) else (some false))) else (some false)) = some r := by rw [if_pos rfl] at H; exact H
           clear H
           have H := H1
           clear H1
           by_cases c123 : t412 = 0
           ·rw [if_pos c123] at H
            have c123b0 : (t412 == 0) = true := beq_iff_eq.mpr c123
            have c123b1 : (t412 != 0) = false := bne_eq_false_iff_eq.mpr c123
            clear c123
            replace H := Option.bind_eq_some_iff.mp H
            obtain ⟨t424, A1240, H⟩ := H
            try dsimp only at H
            have A124 := am A1240
            clear A1240
            by_cases c125 : t424 = true
            ·subst c125
             have H1 : ((l14_awake.f kj45).bind fun t425 => (some t425)) = some r := by rw [if_pos rfl] at H; exact H
             clear H
             have H := H1
             clear H1
             replace H := Option.bind_eq_some_iff.mp H
             obtain ⟨t425, A1260, H⟩ := H
             try dsimp only at H
             have A126 := am A1260
             clear A1260
             obtain rfl := Option.some.inj H
             have hnb127 := NB387_388.out
             have hnc127 := NB388_387.out
             have hnb128 := NB387_401.out
             have hnc128 := NB401_387.out
             have hnb129 := NB387_402.out
             have hnc129 := NB402_387.out
             have hnb130 := NB387_413.out
             have hnc130 := NB413_387.out
             have hcz131_0 := ce BK387 0
             have hcz131_1 := ce BK387 1
             have hcz131_2 := ce BK387 2
             have hcz131_3 := ce BK387 3
             have hfz131_0 := fz BK387 0
             have hfz131_1 := fz BK387 1
             have hfz131_2 := fz BK387 2
             have hfz131_3 := fz BK387 3
             have hnb132 := NB388_401.out
             have hnc132 := NB401_388.out
             have hnb133 := NB388_402.out
             have hnc133 := NB402_388.out
             have hnb134 := NB388_413.out
             have hnc134 := NB413_388.out
             have hcz135_0 := ce BK388 0
             have hcz135_1 := ce BK388 1
             have hcz135_2 := ce BK388 2
             have hcz135_3 := ce BK388 3
             have hfz135_0 := fz BK388 0
             have hfz135_1 := fz BK388 1
             have hfz135_2 := fz BK388 2
             have hfz135_3 := fz BK388 3
             have hnb136 := NB401_402.out
             have hnc136 := NB402_401.out
             have hnb137 := NB401_413.out
             have hnc137 := NB413_401.out
             have hcz138_0 := ce BK401 0
             have hcz138_1 := ce BK401 1
             have hcz138_2 := ce BK401 2
             have hcz138_3 := ce BK401 3
             have hfz138_0 := fz BK401 0
             have hfz138_1 := fz BK401 1
             have hfz138_2 := fz BK401 2
             have hfz138_3 := fz BK401 3
             have hnb139 := NB402_413.out
             have hnc139 := NB413_402.out
             have hcz140_0 := ce BK402 0
             have hcz140_1 := ce BK402 1
             have hcz140_2 := ce BK402 2
             have hcz140_3 := ce BK402 3
             have hfz140_0 := fz BK402 0
             have hfz140_1 := fz BK402 1
             have hfz140_2 := fz BK402 2
             have hfz140_3 := fz BK402 3
             go_wp2_with (first | ((with_reducible refine gate_callee (f := 15) rfl ?_); refine gl (some 89) Try.func15 #[.agg #[.int .u64 a0_0, .int .u64 a0_1], .slice Ao17 t392.length co17, .slice Ao22 t398.length co22, .int .i64 (wrap64 (a0_2 + 1))] ?_; (with_reducible refine (r14_Joined.calls kj45 a0_0 a0_1 _ _ t392 _ _ t398 (wrap64 (a0_2 + 1)) t420 true _ ?side1 ?side2 ?side3 ?side4 A121.out).mono ?_); (case side1 => repeat (first | exact (Kd.R_reads' HO_402003.out).2.2 | (with_reducible refine Kd.C_alloc ?_ _) | (with_reducible refine Kd.C_drewN ?_ _) | (with_reducible refine Kd.C_drew ?_))); (case side2 => exact (Kd.R_reads' HO_402003.out).2.1); (case side3 => repeat (first | exact (Kd.R_reads' HO_403003.out).2.2 | (with_reducible refine Kd.C_alloc ?_ _) | (with_reducible refine Kd.C_drewN ?_ _) | (with_reducible refine Kd.C_drew ?_))); (case side4 => exact (Kd.R_reads' HO_403003.out).2.1); rintro e w141 ⟨v421, rfl, ho0, hb⟩; refine ⟨_, rfl, ?_⟩; have n0_ := am (Kd.R_elder' (pr HO_402003.out) (Kd.R_base ho0) hb); have n1_ := am (Kd.R_elder' (pr HO_403003.out) (Kd.R_base ho0) hb); have n2_ := am (Kd.V_elder' (pv HO_414003.out) (Kd.R_base ho0) hb); have n3_ := am (Kd.R_lower (Kd.R_new' (Kd.R_new' ho0 (Kd.R_lt (pr HO_402003.out))) (Kd.R_lt (pr HO_403003.out))) (below_size (pb HB))); have n4_ := am (blk_below (pk BK387.out) hb); have n5_ := am (blk_below (pk BK388.out) hb); have n6_ := am (blk_below (pk BK401.out) hb); have n7_ := am (blk_below (pk BK402.out) hb); have n8_ := am (blk_below (pk BK413.out) hb); have n9_ := am (below_step (pb HB) hb); clear HO_402003; clear HO_403003; clear HO_414003; clear BK387; clear BK388; clear BK401; clear BK402; clear BK413; clear HB; have HO_402003 := n0_; have HO_403003 := n1_; have HO_414003 := n2_; have HO422 := n3_; have BK387 := n4_; have BK388 := n5_; have BK401 := n6_; have BK402 := n7_; have BK413 := n8_; have HB := n9_; clear n0_ n1_ n2_ n3_ n4_ n5_ n6_ n7_ n8_ n9_; (try clear hb); (try clear hb2); (try clear hk); (try clear hi); (try clear ho0); have hcz142_0 := ce BK413 0; have hcz142_1 := ce BK413 1; have hcz142_2 := ce BK413 2; have hcz142_3 := ce BK413 3; have hfz142_0 := fz BK413 0; have hfz142_1 := fz BK413 1; have hfz142_2 := fz BK413 2; have hfz142_3 := fz BK413 3; have hcz143_0 := ce BK387 0; have hcz143_1 := ce BK387 1; have hcz143_2 := ce BK387 2; have hcz143_3 := ce BK387 3; have hfz143_0 := fz BK387 0; have hfz143_1 := fz BK387 1; have hfz143_2 := fz BK387 2; have hfz143_3 := fz BK387 3; obtain ⟨Ao144, co144, eo144⟩ := Kd.R_slice HO422.out; subst eo144) | (go_at_call 13; (with_reducible refine (l14_same.calls kj45 t406 t407 t408 _ _ t409 a0_0 a0_1 a0_2 _ _ t420 true _ ?side1 ?side2 ?side3 ?side4 A124.out).mono ?_); (case side1 => repeat (first | exact (Kd.V_reads' HO_414003.out).2.2 | (with_reducible refine Kd.C_alloc ?_ _) | (with_reducible refine Kd.C_drewN ?_ _) | (with_reducible refine Kd.C_drew ?_))); (case side2 => exact (Kd.V_reads' HO_414003.out).2.1); (case side3 => repeat (first | exact (Kd.R_reads' HO422.out).2.2 | (with_reducible refine Kd.C_alloc ?_ _) | (with_reducible refine Kd.C_drewN ?_ _) | (with_reducible refine Kd.C_drew ?_))); (case side4 => exact (Kd.R_reads' HO422.out).2.1); rintro e w145 ⟨rfl, hb⟩; replace HO_402003 := am (Kd.R_below (pr HO_402003.out) hb); replace HO_403003 := am (Kd.R_below (pr HO_403003.out) hb); replace HO_414003 := am (Kd.V_below (pv HO_414003.out) hb); replace HO422 := am (Kd.R_below (pr HO422.out) hb); replace BK387 := am (blk_below (pk BK387.out) hb); replace BK388 := am (blk_below (pk BK388.out) hb); replace BK401 := am (blk_below (pk BK401.out) hb); replace BK402 := am (blk_below (pk BK402.out) hb); replace BK413 := am (blk_below (pk BK413.out) hb); replace HB := am (below_step (pb HB) hb); (try clear hb); (try clear hb2); (try clear hk); (try clear hi)) | (go_at_call 11; (with_reducible refine (l14_awake.calls kj45  t425 hrT _ A126.out).mono ?_); rintro e w146 ⟨rfl, hb⟩; replace HO_402003 := am (Kd.R_below (pr HO_402003.out) hb); replace HO_403003 := am (Kd.R_below (pr HO_403003.out) hb); replace HO_414003 := am (Kd.V_below (pv HO_414003.out) hb); replace HO422 := am (Kd.R_below (pr HO422.out) hb); replace BK387 := am (blk_below (pk BK387.out) hb); replace BK388 := am (blk_below (pk BK388.out) hb); replace BK401 := am (blk_below (pk BK401.out) hb); replace BK402 := am (blk_below (pk BK402.out) hb); replace BK413 := am (blk_below (pk BK413.out) hb); replace HB := am (below_step (pb HB) hb); (try clear hb); (try clear hb2); (try clear hk); (try clear hi)))
             go_ret
             exact ⟨by first | rfl | (simp [errW_none, errW_some] <;> rfl) | (simp [*, errW_none, errW_some] <;> rfl), pb HB⟩
            ·replace c125 := Bool.eq_false_iff.mpr c125
             subst c125
             have H1 : (some false) = some r := by rw [if_neg (show ¬ (false = true) by decide)] at H; exact H
             exact Bool.noConfusion ((Option.some.inj H1).trans hrT.out)
           ·rw [if_neg c123] at H
            exact Bool.noConfusion ((Option.some.inj H).trans hrT.out)
          ·replace c122 := Bool.eq_false_iff.mpr c122
           subst c122
           have H1 : (if t412 = 12 then (if t414 = true then ((l14_awake.f kj45).bind fun t426 => (some t426)) else (some false)) else (some false)) = some r := by rw [if_neg (show ¬ (false = true) by decide)] at H; exact H
           clear H
           have H := H1
           clear H1
           by_cases c181 : t412 = 12
           ·rw [if_pos c181] at H
            have c181b0 : (t412 == 12) = true := beq_iff_eq.mpr c181
            have c181b1 : (t412 != 12) = false := bne_eq_false_iff_eq.mpr c181
            clear c181
            by_cases c182 : t414 = true
            ·subst c182
             have H1 : ((l14_awake.f kj45).bind fun t426 => (some t426)) = some r := by rw [if_pos rfl] at H; exact H
             clear H
             have H := H1
             clear H1
             replace H := Option.bind_eq_some_iff.mp H
             obtain ⟨t426, A1830, H⟩ := H
             try dsimp only at H
             have A183 := am A1830
             clear A1830
             obtain rfl := Option.some.inj H
             have hnb184 := NB387_388.out
             have hnc184 := NB388_387.out
             have hnb185 := NB387_401.out
             have hnc185 := NB401_387.out
             have hnb186 := NB387_402.out
             have hnc186 := NB402_387.out
             have hnb187 := NB387_413.out
             have hnc187 := NB413_387.out
             have hcz188_0 := ce BK387 0
             have hcz188_1 := ce BK387 1
             have hcz188_2 := ce BK387 2
             have hcz188_3 := ce BK387 3
             have hfz188_0 := fz BK387 0
             have hfz188_1 := fz BK387 1
             have hfz188_2 := fz BK387 2
             have hfz188_3 := fz BK387 3
             have hnb189 := NB388_401.out
             have hnc189 := NB401_388.out
             have hnb190 := NB388_402.out
             have hnc190 := NB402_388.out
             have hnb191 := NB388_413.out
             have hnc191 := NB413_388.out
             have hcz192_0 := ce BK388 0
             have hcz192_1 := ce BK388 1
             have hcz192_2 := ce BK388 2
             have hcz192_3 := ce BK388 3
             have hfz192_0 := fz BK388 0
             have hfz192_1 := fz BK388 1
             have hfz192_2 := fz BK388 2
             have hfz192_3 := fz BK388 3
             have hnb193 := NB401_402.out
             have hnc193 := NB402_401.out
             have hnb194 := NB401_413.out
             have hnc194 := NB413_401.out
             have hcz195_0 := ce BK401 0
             have hcz195_1 := ce BK401 1
             have hcz195_2 := ce BK401 2
             have hcz195_3 := ce BK401 3
             have hfz195_0 := fz BK401 0
             have hfz195_1 := fz BK401 1
             have hfz195_2 := fz BK401 2
             have hfz195_3 := fz BK401 3
             have hnb196 := NB402_413.out
             have hnc196 := NB413_402.out
             have hcz197_0 := ce BK402 0
             have hcz197_1 := ce BK402 1
             have hcz197_2 := ce BK402 2
             have hcz197_3 := ce BK402 3
             have hfz197_0 := fz BK402 0
             have hfz197_1 := fz BK402 1
             have hfz197_2 := fz BK402 2
             have hfz197_3 := fz BK402 3
             go_wp2_with (first | ((with_reducible refine gate_callee (f := 15) rfl ?_); refine gl (some 89) Try.func15 #[.agg #[.int .u64 a0_0, .int .u64 a0_1], .slice Ao17 t392.length co17, .slice Ao22 t398.length co22, .int .i64 (wrap64 (a0_2 + 1))] ?_; (with_reducible refine (r14_Joined.calls kj45 a0_0 a0_1 _ _ t392 _ _ t398 (wrap64 (a0_2 + 1)) t420 false _ ?side1 ?side2 ?side3 ?side4 A121.out).mono ?_); (case side1 => repeat (first | exact (Kd.R_reads' HO_402003.out).2.2 | (with_reducible refine Kd.C_alloc ?_ _) | (with_reducible refine Kd.C_drewN ?_ _) | (with_reducible refine Kd.C_drew ?_))); (case side2 => exact (Kd.R_reads' HO_402003.out).2.1); (case side3 => repeat (first | exact (Kd.R_reads' HO_403003.out).2.2 | (with_reducible refine Kd.C_alloc ?_ _) | (with_reducible refine Kd.C_drewN ?_ _) | (with_reducible refine Kd.C_drew ?_))); (case side4 => exact (Kd.R_reads' HO_403003.out).2.1); rintro e w198 ⟨v421, rfl, ho0, hb⟩; refine ⟨_, rfl, ?_⟩; have n0_ := am (Kd.R_elder' (pr HO_402003.out) (Kd.R_base ho0) hb); have n1_ := am (Kd.R_elder' (pr HO_403003.out) (Kd.R_base ho0) hb); have n2_ := am (Kd.V_elder' (pv HO_414003.out) (Kd.R_base ho0) hb); have n3_ := am (Kd.R_lower (Kd.R_new' (Kd.R_new' ho0 (Kd.R_lt (pr HO_402003.out))) (Kd.R_lt (pr HO_403003.out))) (below_size (pb HB))); have n4_ := am (blk_below (pk BK387.out) hb); have n5_ := am (blk_below (pk BK388.out) hb); have n6_ := am (blk_below (pk BK401.out) hb); have n7_ := am (blk_below (pk BK402.out) hb); have n8_ := am (blk_below (pk BK413.out) hb); have n9_ := am (below_step (pb HB) hb); clear HO_402003; clear HO_403003; clear HO_414003; clear BK387; clear BK388; clear BK401; clear BK402; clear BK413; clear HB; have HO_402003 := n0_; have HO_403003 := n1_; have HO_414003 := n2_; have HO422 := n3_; have BK387 := n4_; have BK388 := n5_; have BK401 := n6_; have BK402 := n7_; have BK413 := n8_; have HB := n9_; clear n0_ n1_ n2_ n3_ n4_ n5_ n6_ n7_ n8_ n9_; (try clear hb); (try clear hb2); (try clear hk); (try clear hi); (try clear ho0)) | (go_at_call 11; (with_reducible refine (l14_awake.calls kj45  t426 hrT _ A183.out).mono ?_); rintro e w199 ⟨rfl, hb⟩; replace HO_402003 := am (Kd.R_below (pr HO_402003.out) hb); replace HO_403003 := am (Kd.R_below (pr HO_403003.out) hb); replace HO_414003 := am (Kd.V_below (pv HO_414003.out) hb); replace HO422 := am (Kd.R_below (pr HO422.out) hb); replace BK387 := am (blk_below (pk BK387.out) hb); replace BK388 := am (blk_below (pk BK388.out) hb); replace BK401 := am (blk_below (pk BK401.out) hb); replace BK402 := am (blk_below (pk BK402.out) hb); replace BK413 := am (blk_below (pk BK413.out) hb); replace HB := am (below_step (pb HB) hb); (try clear hb); (try clear hb2); (try clear hk); (try clear hi)))
             go_ret
             exact ⟨by first | rfl | (simp [errW_none, errW_some] <;> rfl) | (simp [*, errW_none, errW_some] <;> rfl), pb HB⟩
            ·replace c182 := Bool.eq_false_iff.mpr c182
             subst c182
             have H1 : (some false) = some r := by rw [if_neg (show ¬ (false = true) by decide)] at H; exact H
             exact Bool.noConfusion ((Option.some.inj H1).trans hrT.out)
           ·rw [if_neg c181] at H
            exact Bool.noConfusion ((Option.some.inj H).trans hrT.out)
         ·rw [if_neg c120] at H
          have c120b0 : (a0_2 == a1_2) = false := beq_eq_false_iff_ne.mpr c120
          have c120b1 : (a0_2 != a1_2) = true := bne_iff_ne.mpr c120
          by_cases c230 : t412 = 10
          ·rw [if_pos c230] at H
           have c230b0 : (t412 == 10) = true := beq_iff_eq.mpr c230
           have c230b1 : (t412 != 10) = false := bne_eq_false_iff_eq.mpr c230
           clear c230
           by_cases c231 : t414 = true
           ·subst c231
            have H1 : ((l14_awake.f kj45).bind fun t419 => (some t419)) = some r := by rw [if_pos rfl] at H; exact H
            clear H
            have H := H1
            clear H1
            replace H := Option.bind_eq_some_iff.mp H
            obtain ⟨t419, A2320, H⟩ := H
            try dsimp only at H
            have A232 := am A2320
            clear A2320
            obtain rfl := Option.some.inj H
            have hnb233 := NB387_388.out
            have hnc233 := NB388_387.out
            have hnb234 := NB387_401.out
            have hnc234 := NB401_387.out
            have hnb235 := NB387_402.out
            have hnc235 := NB402_387.out
            have hnb236 := NB387_413.out
            have hnc236 := NB413_387.out
            have hcz237_0 := ce BK387 0
            have hcz237_1 := ce BK387 1
            have hcz237_2 := ce BK387 2
            have hcz237_3 := ce BK387 3
            have hfz237_0 := fz BK387 0
            have hfz237_1 := fz BK387 1
            have hfz237_2 := fz BK387 2
            have hfz237_3 := fz BK387 3
            have hnb238 := NB388_401.out
            have hnc238 := NB401_388.out
            have hnb239 := NB388_402.out
            have hnc239 := NB402_388.out
            have hnb240 := NB388_413.out
            have hnc240 := NB413_388.out
            have hcz241_0 := ce BK388 0
            have hcz241_1 := ce BK388 1
            have hcz241_2 := ce BK388 2
            have hcz241_3 := ce BK388 3
            have hfz241_0 := fz BK388 0
            have hfz241_1 := fz BK388 1
            have hfz241_2 := fz BK388 2
            have hfz241_3 := fz BK388 3
            go_wp2_with (first | (go_at_call 11; (with_reducible refine (l14_awake.calls kj45  t419 hrT _ A232.out).mono ?_); rintro e w242 ⟨rfl, hb⟩; replace HO_402003 := am (Kd.R_below (pr HO_402003.out) hb); replace HO_403003 := am (Kd.R_below (pr HO_403003.out) hb); replace HO_414003 := am (Kd.V_below (pv HO_414003.out) hb); replace BK387 := am (blk_below (pk BK387.out) hb); replace BK388 := am (blk_below (pk BK388.out) hb); replace BK401 := am (blk_below (pk BK401.out) hb); replace BK402 := am (blk_below (pk BK402.out) hb); replace BK413 := am (blk_below (pk BK413.out) hb); replace HB := am (below_step (pb HB) hb); (try clear hb); (try clear hb2); (try clear hk); (try clear hi)))
            go_ret
            exact ⟨by first | rfl | (simp [errW_none, errW_some] <;> rfl) | (simp [*, errW_none, errW_some] <;> rfl), pb HB⟩
           ·replace c231 := Bool.eq_false_iff.mpr c231
            subst c231
            have H1 : (some false) = some r := by rw [if_neg (show ¬ (false = true) by decide)] at H; exact H
            exact Bool.noConfusion ((Option.some.inj H1).trans hrT.out)
          ·rw [if_neg c230] at H
           exact Bool.noConfusion ((Option.some.inj H).trans hrT.out)
 intro hJ1_3_4_5
 refine join_ (σ := Value × Value × Nat) 3 #[true, true, true, true, true, false, false, false] (fun s_ => [(13, .agg #[.int .u64 t389, .int .u64 t390, .int .i64 t391, s_.1]), (15, .agg #[.int .u64 t395, .int .u64 t396, .int .i64 t397, s_.2.1]), (5, .pointer (some ⟨s_.2.2, 0, none⟩))]) (fun s_ w' => (w'.cell? ⟨gb387, 0, none⟩ = some (.int .u64 a0_0) ∧ w'.cell? ⟨gb387, 1, none⟩ = some (.int .u64 a0_1) ∧ w'.cell? ⟨gb387, 2, none⟩ = some (.int .i64 a0_2) ∧ w'.cell? ⟨gb387, 3, none⟩ = some (.slice A0_3 l0_3.length c0_3) ∧ w'.cell? ⟨gb388, 0, none⟩ = some (.int .u64 a1_0) ∧ w'.cell? ⟨gb388, 1, none⟩ = some (.int .u64 a1_1) ∧ w'.cell? ⟨gb388, 2, none⟩ = some (.int .i64 a1_2) ∧ w'.cell? ⟨gb388, 3, none⟩ = some (.slice A1_3 l1_3.length c1_3)) ∧ (Kd.R k60 60 w' w.heap.size (fun k_ => some k_ ≠ (s_.2.1 : Value).ownBlock) s_.1 t392) ∧ (Kd.R k60 60 w' w.heap.size (fun k_ => some k_ ≠ (s_.1 : Value).ownBlock) s_.2.1 t398) ∧ (w'.heap[gb387]? = some (.cells #[.int .u64 a0_0, .int .u64 a0_1, .int .i64 a0_2, .slice A0_3 l0_3.length c0_3] 27 (0, 0))) ∧ (w'.heap[gb388]? = some (.cells #[.int .u64 a1_0, .int .u64 a1_1, .int .i64 a1_2, .slice A1_3 l1_3.length c1_3] 27 (0, 0))) ∧ (w'.heap[s_.2.2]? = some (.cells #[.int .u64 0, .int .u64 0, .int .i64 0, .slice none 0 0] 30 (0, 0))) ∧ (w.heap.size ≤ s_.2.2) ∧ (w.heap.size ≤ s_.2.2) ∧ (gb387 ≠ s_.2.2) ∧ (s_.2.2 ≠ gb387) ∧ (gb388 ≠ s_.2.2) ∧ (s_.2.2 ≠ gb388) ∧ (Below w.heap.size w w')) ?_ ?_
 ·skip
  rintro ⟨v393, v399, gb401⟩ w12 ⟨hS_, h0_, h1_, h2_, h3_, h4_, h5_, h6_, h7_, h8_, h9_, h10_, h11_⟩
  have HO394 : Aside0 (Kd.R k60 60 w12 w.heap.size (fun k_ => some k_ ≠ (v399 : Value).ownBlock) v393 t392) := ⟨h0_⟩
  have HO400 : Aside0 (Kd.R k60 60 w12 w.heap.size (fun k_ => some k_ ≠ (v393 : Value).ownBlock) v399 t398) := ⟨h1_⟩
  replace BK387 : Aside0 (w12.heap[gb387]? = some (.cells #[.int .u64 a0_0, .int .u64 a0_1, .int .i64 a0_2, .slice A0_3 l0_3.length c0_3] 27 (0, 0))) := ⟨h2_⟩
  replace BK388 : Aside0 (w12.heap[gb388]? = some (.cells #[.int .u64 a1_0, .int .u64 a1_1, .int .i64 a1_2, .slice A1_3 l1_3.length c1_3] 27 (0, 0))) := ⟨h3_⟩
  have BK401 : Aside0 (w12.heap[gb401]? = some (.cells #[.int .u64 0, .int .u64 0, .int .i64 0, .slice none 0 0] 30 (0, 0))) := ⟨h4_⟩
  have GW401 : Aside0 (w.heap.size ≤ gb401) := ⟨h5_⟩
  have GE401 : Aside0 (w.heap.size ≤ gb401) := ⟨h6_⟩
  have NB387_401 : Aside0 (gb387 ≠ gb401) := ⟨h7_⟩
  have NB401_387 : Aside0 (gb401 ≠ gb387) := ⟨h8_⟩
  have NB388_401 : Aside0 (gb388 ≠ gb401) := ⟨h9_⟩
  have NB401_388 : Aside0 (gb401 ≠ gb388) := ⟨h10_⟩
  replace HB : Aside0 (Below w.heap.size w w12) := ⟨h11_⟩
  clear h0_ h1_ h2_ h3_ h4_ h5_ h6_ h7_ h8_ h9_ h10_ h11_
  have hHeld : w12.cell? ⟨gb387, 0, none⟩ = some (.int .u64 a0_0) ∧ w12.cell? ⟨gb387, 1, none⟩ = some (.int .u64 a0_1) ∧ w12.cell? ⟨gb387, 2, none⟩ = some (.int .i64 a0_2) ∧ w12.cell? ⟨gb387, 3, none⟩ = some (.slice A0_3 l0_3.length c0_3) ∧ w12.cell? ⟨gb388, 0, none⟩ = some (.int .u64 a1_0) ∧ w12.cell? ⟨gb388, 1, none⟩ = some (.int .u64 a1_1) ∧ w12.cell? ⟨gb388, 2, none⟩ = some (.int .i64 a1_2) ∧ w12.cell? ⟨gb388, 3, none⟩ = some (.slice A1_3 l1_3.length c1_3) := hS_
  refine norm_ (a' := ?_) ?_ ?_
  rotate_left
  ·simp only [putAll, Act.put, List.setIfInBounds_toArray, List.set_cons_zero, List.set_cons_succ]
   rfl
  refine on1 5 (fun K hK => ?_)
  refine bx 6 #[.int .u64 0, .int .u64 0, .int .i64 0, .slice none 0 0] 30 ?_
  intro gb402 hg w13 hbox hb
  have n0_ := am (Kd.R_below (pr HO394.out) hb)
  have n1_ := am (Kd.R_below (pr HO400.out) hb)
  have n2_ := am (blk_below (pk BK387.out) hb)
  have n3_ := am (blk_below (pk BK388.out) hb)
  have n4_ := am (blk_below (pk BK401.out) hb)
  have n5_ := am (below_step (pb HB) hb)
  have n6_ := am (hbox)
  have n7_ := am ((pg hg HB : w.heap.size ≤ gb402))
  have n8_ := am ((pg hg HB : w.heap.size ≤ gb402))
  have n9_ := am ((pl hg (pk BK387.out) : gb387 ≠ gb402))
  have n10_ := am ((pl' hg (pk BK387.out) : gb402 ≠ gb387))
  have n11_ := am ((pl hg (pk BK388.out) : gb388 ≠ gb402))
  have n12_ := am ((pl' hg (pk BK388.out) : gb402 ≠ gb388))
  have n13_ := am ((pl hg (pk BK401.out) : gb401 ≠ gb402))
  have n14_ := am ((pl' hg (pk BK401.out) : gb402 ≠ gb401))
  clear HO394 HO400 BK387 BK388 BK401 HB
  have HO394 := n0_
  have HO400 := n1_
  have BK387 := n2_
  have BK388 := n3_
  have BK401 := n4_
  have HB := n5_
  have BK402 := n6_
  have GW402 := n7_
  have GE402 := n8_
  have NB387_402 := n9_
  have NB402_387 := n10_
  have NB388_402 := n11_
  have NB402_388 := n12_
  have NB401_402 := n13_
  have NB402_401 := n14_
  clear n0_ n1_ n2_ n3_ n4_ n5_ n6_ n7_ n8_ n9_ n10_ n11_ n12_ n13_ n14_ hb hbox hg
  refine hK.out _ _ ⟨ce BK387 0, ce BK387 1, ce BK387 2, ce BK387 3, ce BK388 0, ce BK388 1, ce BK388 2, ce BK388 3⟩ (fun hHeld => ?_)
  clear hK K
  refine nm ?_
  exact nj (hJ1_3_4_5 (v393, v399, gb401, gb402) _ ⟨hHeld, (pr HO394.out), (pr HO400.out), (pk BK387.out), (pk BK388.out), (pk BK401.out), (pk BK402.out), GW401.out, GE401.out, NB387_401.out, NB401_387.out, NB388_401.out, NB401_388.out, NB402_401.out, NB401_402.out, GW402.out, GE402.out, NB387_402.out, NB402_387.out, NB388_402.out, NB402_388.out, (pb HB)⟩)
 intro hJ1_3_4
 refine join_ (σ := Value × Value × Nat) 3 #[true, true, true, true, false, true, false, false] (fun s_ => [(13, .agg #[.int .u64 t389, .int .u64 t390, .int .i64 t391, s_.1]), (15, .agg #[.int .u64 t395, .int .u64 t396, .int .i64 t397, s_.2.1]), (6, .pointer (some ⟨s_.2.2, 0, none⟩))]) (fun s_ w' => (w'.cell? ⟨gb387, 0, none⟩ = some (.int .u64 a0_0) ∧ w'.cell? ⟨gb387, 1, none⟩ = some (.int .u64 a0_1) ∧ w'.cell? ⟨gb387, 2, none⟩ = some (.int .i64 a0_2) ∧ w'.cell? ⟨gb387, 3, none⟩ = some (.slice A0_3 l0_3.length c0_3) ∧ w'.cell? ⟨gb388, 0, none⟩ = some (.int .u64 a1_0) ∧ w'.cell? ⟨gb388, 1, none⟩ = some (.int .u64 a1_1) ∧ w'.cell? ⟨gb388, 2, none⟩ = some (.int .i64 a1_2) ∧ w'.cell? ⟨gb388, 3, none⟩ = some (.slice A1_3 l1_3.length c1_3)) ∧ (Kd.R k60 60 w' w.heap.size (fun k_ => some k_ ≠ (s_.2.1 : Value).ownBlock) s_.1 t392) ∧ (Kd.R k60 60 w' w.heap.size (fun k_ => some k_ ≠ (s_.1 : Value).ownBlock) s_.2.1 t398) ∧ (w'.heap[gb387]? = some (.cells #[.int .u64 a0_0, .int .u64 a0_1, .int .i64 a0_2, .slice A0_3 l0_3.length c0_3] 27 (0, 0))) ∧ (w'.heap[gb388]? = some (.cells #[.int .u64 a1_0, .int .u64 a1_1, .int .i64 a1_2, .slice A1_3 l1_3.length c1_3] 27 (0, 0))) ∧ (w'.heap[s_.2.2]? = some (.cells #[.int .u64 0, .int .u64 0, .int .i64 0, .slice none 0 0] 30 (0, 0))) ∧ (w.heap.size ≤ s_.2.2) ∧ (w.heap.size ≤ s_.2.2) ∧ (gb387 ≠ s_.2.2) ∧ (s_.2.2 ≠ gb387) ∧ (gb388 ≠ s_.2.2) ∧ (s_.2.2 ≠ gb388) ∧ (Below w.heap.size w w')) ?_ ?_
 ·skip
  rintro ⟨v393, v399, gb402⟩ w12 ⟨hS_, h0_, h1_, h2_, h3_, h4_, h5_, h6_, h7_, h8_, h9_, h10_, h11_⟩
  have HO394 : Aside0 (Kd.R k60 60 w12 w.heap.size (fun k_ => some k_ ≠ (v399 : Value).ownBlock) v393 t392) := ⟨h0_⟩
  have HO400 : Aside0 (Kd.R k60 60 w12 w.heap.size (fun k_ => some k_ ≠ (v393 : Value).ownBlock) v399 t398) := ⟨h1_⟩
  replace BK387 : Aside0 (w12.heap[gb387]? = some (.cells #[.int .u64 a0_0, .int .u64 a0_1, .int .i64 a0_2, .slice A0_3 l0_3.length c0_3] 27 (0, 0))) := ⟨h2_⟩
  replace BK388 : Aside0 (w12.heap[gb388]? = some (.cells #[.int .u64 a1_0, .int .u64 a1_1, .int .i64 a1_2, .slice A1_3 l1_3.length c1_3] 27 (0, 0))) := ⟨h3_⟩
  have BK402 : Aside0 (w12.heap[gb402]? = some (.cells #[.int .u64 0, .int .u64 0, .int .i64 0, .slice none 0 0] 30 (0, 0))) := ⟨h4_⟩
  have GW402 : Aside0 (w.heap.size ≤ gb402) := ⟨h5_⟩
  have GE402 : Aside0 (w.heap.size ≤ gb402) := ⟨h6_⟩
  have NB387_402 : Aside0 (gb387 ≠ gb402) := ⟨h7_⟩
  have NB402_387 : Aside0 (gb402 ≠ gb387) := ⟨h8_⟩
  have NB388_402 : Aside0 (gb388 ≠ gb402) := ⟨h9_⟩
  have NB402_388 : Aside0 (gb402 ≠ gb388) := ⟨h10_⟩
  replace HB : Aside0 (Below w.heap.size w w12) := ⟨h11_⟩
  clear h0_ h1_ h2_ h3_ h4_ h5_ h6_ h7_ h8_ h9_ h10_ h11_
  have hHeld : w12.cell? ⟨gb387, 0, none⟩ = some (.int .u64 a0_0) ∧ w12.cell? ⟨gb387, 1, none⟩ = some (.int .u64 a0_1) ∧ w12.cell? ⟨gb387, 2, none⟩ = some (.int .i64 a0_2) ∧ w12.cell? ⟨gb387, 3, none⟩ = some (.slice A0_3 l0_3.length c0_3) ∧ w12.cell? ⟨gb388, 0, none⟩ = some (.int .u64 a1_0) ∧ w12.cell? ⟨gb388, 1, none⟩ = some (.int .u64 a1_1) ∧ w12.cell? ⟨gb388, 2, none⟩ = some (.int .i64 a1_2) ∧ w12.cell? ⟨gb388, 3, none⟩ = some (.slice A1_3 l1_3.length c1_3) := hS_
  refine norm_ (a' := ?_) ?_ ?_
  rotate_left
  ·simp only [putAll, Act.put, List.setIfInBounds_toArray, List.set_cons_zero, List.set_cons_succ]
   rfl
  refine on1 4 (fun K hK => ?_)
  refine bx 5 #[.int .u64 0, .int .u64 0, .int .i64 0, .slice none 0 0] 30 ?_
  intro gb401 hg w13 hbox hb
  have n0_ := am (Kd.R_below (pr HO394.out) hb)
  have n1_ := am (Kd.R_below (pr HO400.out) hb)
  have n2_ := am (blk_below (pk BK387.out) hb)
  have n3_ := am (blk_below (pk BK388.out) hb)
  have n4_ := am (blk_below (pk BK402.out) hb)
  have n5_ := am (below_step (pb HB) hb)
  have n6_ := am (hbox)
  have n7_ := am ((pg hg HB : w.heap.size ≤ gb401))
  have n8_ := am ((pg hg HB : w.heap.size ≤ gb401))
  have n9_ := am ((pl hg (pk BK387.out) : gb387 ≠ gb401))
  have n10_ := am ((pl' hg (pk BK387.out) : gb401 ≠ gb387))
  have n11_ := am ((pl hg (pk BK388.out) : gb388 ≠ gb401))
  have n12_ := am ((pl' hg (pk BK388.out) : gb401 ≠ gb388))
  have n13_ := am ((pl hg (pk BK402.out) : gb402 ≠ gb401))
  have n14_ := am ((pl' hg (pk BK402.out) : gb401 ≠ gb402))
  clear HO394 HO400 BK387 BK388 BK402 HB
  have HO394 := n0_
  have HO400 := n1_
  have BK387 := n2_
  have BK388 := n3_
  have BK402 := n4_
  have HB := n5_
  have BK401 := n6_
  have GW401 := n7_
  have GE401 := n8_
  have NB387_401 := n9_
  have NB401_387 := n10_
  have NB388_401 := n11_
  have NB401_388 := n12_
  have NB402_401 := n13_
  have NB401_402 := n14_
  clear n0_ n1_ n2_ n3_ n4_ n5_ n6_ n7_ n8_ n9_ n10_ n11_ n12_ n13_ n14_ hb hbox hg
  refine hK.out _ _ ⟨ce BK387 0, ce BK387 1, ce BK387 2, ce BK387 3, ce BK388 0, ce BK388 1, ce BK388 2, ce BK388 3⟩ (fun hHeld => ?_)
  clear hK K
  refine nm ?_
  exact nj (hJ1_3_4_5 (v393, v399, gb401, gb402) _ ⟨hHeld, (pr HO394.out), (pr HO400.out), (pk BK387.out), (pk BK388.out), (pk BK401.out), (pk BK402.out), GW401.out, GE401.out, NB387_401.out, NB401_387.out, NB388_401.out, NB401_388.out, NB402_401.out, NB401_402.out, GW402.out, GE402.out, NB387_402.out, NB402_387.out, NB388_402.out, NB402_388.out, (pb HB)⟩)
 intro hJ1_3_5
 refine join_ (σ := Value × Nat × Nat) 3 #[true, true, true, false, true, true, false, false] (fun s_ => [(13, .agg #[.int .u64 t389, .int .u64 t390, .int .i64 t391, s_.1]), (5, .pointer (some ⟨s_.2.1, 0, none⟩)), (6, .pointer (some ⟨s_.2.2, 0, none⟩))]) (fun s_ w' => (w'.cell? ⟨gb387, 0, none⟩ = some (.int .u64 a0_0) ∧ w'.cell? ⟨gb387, 1, none⟩ = some (.int .u64 a0_1) ∧ w'.cell? ⟨gb387, 2, none⟩ = some (.int .i64 a0_2) ∧ w'.cell? ⟨gb387, 3, none⟩ = some (.slice A0_3 l0_3.length c0_3) ∧ w'.cell? ⟨gb388, 0, none⟩ = some (.int .u64 a1_0) ∧ w'.cell? ⟨gb388, 1, none⟩ = some (.int .u64 a1_1) ∧ w'.cell? ⟨gb388, 2, none⟩ = some (.int .i64 a1_2) ∧ w'.cell? ⟨gb388, 3, none⟩ = some (.slice A1_3 l1_3.length c1_3)) ∧ (Kd.R k60 60 w' w.heap.size (fun _ => True) s_.1 t392) ∧ (w'.heap[gb387]? = some (.cells #[.int .u64 a0_0, .int .u64 a0_1, .int .i64 a0_2, .slice A0_3 l0_3.length c0_3] 27 (0, 0))) ∧ (w'.heap[gb388]? = some (.cells #[.int .u64 a1_0, .int .u64 a1_1, .int .i64 a1_2, .slice A1_3 l1_3.length c1_3] 27 (0, 0))) ∧ (w'.heap[s_.2.1]? = some (.cells #[.int .u64 0, .int .u64 0, .int .i64 0, .slice none 0 0] 30 (0, 0))) ∧ (w'.heap[s_.2.2]? = some (.cells #[.int .u64 0, .int .u64 0, .int .i64 0, .slice none 0 0] 30 (0, 0))) ∧ (w.heap.size ≤ s_.2.1) ∧ (w.heap.size ≤ s_.2.1) ∧ (gb387 ≠ s_.2.1) ∧ (s_.2.1 ≠ gb387) ∧ (gb388 ≠ s_.2.1) ∧ (s_.2.1 ≠ gb388) ∧ (s_.2.2 ≠ s_.2.1) ∧ (s_.2.1 ≠ s_.2.2) ∧ (w.heap.size ≤ s_.2.2) ∧ (w.heap.size ≤ s_.2.2) ∧ (gb387 ≠ s_.2.2) ∧ (s_.2.2 ≠ gb387) ∧ (gb388 ≠ s_.2.2) ∧ (s_.2.2 ≠ gb388) ∧ (Below w.heap.size w w')) ?_ ?_
 ·skip
  rintro ⟨v393, gb401, gb402⟩ w12 ⟨hS_, h0_, h1_, h2_, h3_, h4_, h5_, h6_, h7_, h8_, h9_, h10_, h11_, h12_, h13_, h14_, h15_, h16_, h17_, h18_, h19_⟩
  have HO394 : Aside0 (Kd.R k60 60 w12 w.heap.size (fun _ => True) v393 t392) := ⟨h0_⟩
  replace BK387 : Aside0 (w12.heap[gb387]? = some (.cells #[.int .u64 a0_0, .int .u64 a0_1, .int .i64 a0_2, .slice A0_3 l0_3.length c0_3] 27 (0, 0))) := ⟨h1_⟩
  replace BK388 : Aside0 (w12.heap[gb388]? = some (.cells #[.int .u64 a1_0, .int .u64 a1_1, .int .i64 a1_2, .slice A1_3 l1_3.length c1_3] 27 (0, 0))) := ⟨h2_⟩
  have BK401 : Aside0 (w12.heap[gb401]? = some (.cells #[.int .u64 0, .int .u64 0, .int .i64 0, .slice none 0 0] 30 (0, 0))) := ⟨h3_⟩
  have BK402 : Aside0 (w12.heap[gb402]? = some (.cells #[.int .u64 0, .int .u64 0, .int .i64 0, .slice none 0 0] 30 (0, 0))) := ⟨h4_⟩
  have GW401 : Aside0 (w.heap.size ≤ gb401) := ⟨h5_⟩
  have GE401 : Aside0 (w.heap.size ≤ gb401) := ⟨h6_⟩
  have NB387_401 : Aside0 (gb387 ≠ gb401) := ⟨h7_⟩
  have NB401_387 : Aside0 (gb401 ≠ gb387) := ⟨h8_⟩
  have NB388_401 : Aside0 (gb388 ≠ gb401) := ⟨h9_⟩
  have NB401_388 : Aside0 (gb401 ≠ gb388) := ⟨h10_⟩
  have NB402_401 : Aside0 (gb402 ≠ gb401) := ⟨h11_⟩
  have NB401_402 : Aside0 (gb401 ≠ gb402) := ⟨h12_⟩
  have GW402 : Aside0 (w.heap.size ≤ gb402) := ⟨h13_⟩
  have GE402 : Aside0 (w.heap.size ≤ gb402) := ⟨h14_⟩
  have NB387_402 : Aside0 (gb387 ≠ gb402) := ⟨h15_⟩
  have NB402_387 : Aside0 (gb402 ≠ gb387) := ⟨h16_⟩
  have NB388_402 : Aside0 (gb388 ≠ gb402) := ⟨h17_⟩
  have NB402_388 : Aside0 (gb402 ≠ gb388) := ⟨h18_⟩
  replace HB : Aside0 (Below w.heap.size w w12) := ⟨h19_⟩
  clear h0_ h1_ h2_ h3_ h4_ h5_ h6_ h7_ h8_ h9_ h10_ h11_ h12_ h13_ h14_ h15_ h16_ h17_ h18_ h19_
  have hHeld : w12.cell? ⟨gb387, 0, none⟩ = some (.int .u64 a0_0) ∧ w12.cell? ⟨gb387, 1, none⟩ = some (.int .u64 a0_1) ∧ w12.cell? ⟨gb387, 2, none⟩ = some (.int .i64 a0_2) ∧ w12.cell? ⟨gb387, 3, none⟩ = some (.slice A0_3 l0_3.length c0_3) ∧ w12.cell? ⟨gb388, 0, none⟩ = some (.int .u64 a1_0) ∧ w12.cell? ⟨gb388, 1, none⟩ = some (.int .u64 a1_1) ∧ w12.cell? ⟨gb388, 2, none⟩ = some (.int .i64 a1_2) ∧ w12.cell? ⟨gb388, 3, none⟩ = some (.slice A1_3 l1_3.length c1_3) := hS_
  refine norm_ (a' := ?_) ?_ ?_
  rotate_left
  ·simp only [putAll, Act.put, List.setIfInBounds_toArray, List.set_cons_zero, List.set_cons_succ]
   rfl
  refine on1 3 (fun K hK => ?_)
  refine gs Try.func9 #[.agg #[.int .u64 a1_0, .int .u64 a1_1, .int .i64 a1_2, .slice A1_3 l1_3.length c1_3]] ?_
  with_reducible refine (l14_ref.calls k a1_0 a1_1 a1_2 _ _ l1_3 t395 t396 t397 t398 _ ?side1 ?side2 A4.out).mono ?_
  (case side1 => repeat (first | exact (Kd.C_below HR1_3.out HB.out) | (with_reducible refine Kd.C_alloc ?_ _) | (with_reducible refine Kd.C_drewN ?_ _) | (with_reducible refine Kd.C_drew ?_)))
  (case side2 => exact HC1_3.out)
  rintro e w13 ⟨v399, rfl, ho0, hb⟩
  refine ⟨_, rfl, ?_⟩
  have n0_ := am (Kd.R_elder' (pr HO394.out) (Kd.R_base ho0) hb)
  have n1_ := am (Kd.R_lower (Kd.R_new' ho0 (Kd.R_lt (pr HO394.out))) (below_size (pb HB)))
  have n2_ := am (blk_below (pk BK387.out) hb)
  have n3_ := am (blk_below (pk BK388.out) hb)
  have n4_ := am (blk_below (pk BK401.out) hb)
  have n5_ := am (blk_below (pk BK402.out) hb)
  have n6_ := am (below_step (pb HB) hb)
  clear HO394 BK387 BK388 BK401 BK402 HB
  have HO394 := n0_
  have HO400 := n1_
  have BK387 := n2_
  have BK388 := n3_
  have BK401 := n4_
  have BK402 := n5_
  have HB := n6_
  clear n0_ n1_ n2_ n3_ n4_ n5_ n6_
  (try clear hb)
  (try clear hb2)
  (try clear hk)
  (try clear hi)
  (try clear ho0)
  refine hK.out _ _ ⟨ce BK387 0, ce BK387 1, ce BK387 2, ce BK387 3, ce BK388 0, ce BK388 1, ce BK388 2, ce BK388 3⟩ (fun hHeld => ?_)
  clear hK K
  refine nm ?_
  exact nj (hJ1_3_4_5 (v393, v399, gb401, gb402) _ ⟨hHeld, (pr (Kd.R_mono HO394.out (fun _ hk => hk.2))), (pr (Kd.R_mono HO400.out (fun _ hk => hk.2))), (pk BK387.out), (pk BK388.out), (pk BK401.out), (pk BK402.out), GW401.out, GE401.out, NB387_401.out, NB401_387.out, NB388_401.out, NB401_388.out, NB402_401.out, NB401_402.out, GW402.out, GE402.out, NB387_402.out, NB402_387.out, NB388_402.out, NB402_388.out, (pb HB)⟩)
 intro hJ1_4_5
 refine join_ (σ := Value × Value) 4 #[true, true, true, true, false, false, false, false] (fun s_ => [(13, .agg #[.int .u64 t389, .int .u64 t390, .int .i64 t391, s_.1]), (15, .agg #[.int .u64 t395, .int .u64 t396, .int .i64 t397, s_.2])]) (fun s_ w' => (w'.cell? ⟨gb387, 0, none⟩ = some (.int .u64 a0_0) ∧ w'.cell? ⟨gb387, 1, none⟩ = some (.int .u64 a0_1) ∧ w'.cell? ⟨gb387, 2, none⟩ = some (.int .i64 a0_2) ∧ w'.cell? ⟨gb387, 3, none⟩ = some (.slice A0_3 l0_3.length c0_3) ∧ w'.cell? ⟨gb388, 0, none⟩ = some (.int .u64 a1_0) ∧ w'.cell? ⟨gb388, 1, none⟩ = some (.int .u64 a1_1) ∧ w'.cell? ⟨gb388, 2, none⟩ = some (.int .i64 a1_2) ∧ w'.cell? ⟨gb388, 3, none⟩ = some (.slice A1_3 l1_3.length c1_3)) ∧ (Kd.R k60 60 w' w.heap.size (fun k_ => some k_ ≠ (s_.2 : Value).ownBlock) s_.1 t392) ∧ (Kd.R k60 60 w' w.heap.size (fun k_ => some k_ ≠ (s_.1 : Value).ownBlock) s_.2 t398) ∧ (w'.heap[gb387]? = some (.cells #[.int .u64 a0_0, .int .u64 a0_1, .int .i64 a0_2, .slice A0_3 l0_3.length c0_3] 27 (0, 0))) ∧ (w'.heap[gb388]? = some (.cells #[.int .u64 a1_0, .int .u64 a1_1, .int .i64 a1_2, .slice A1_3 l1_3.length c1_3] 27 (0, 0))) ∧ (Below w.heap.size w w')) ?_ ?_
 ·skip
  rintro ⟨v393, v399⟩ w11 ⟨hS_, h0_, h1_, h2_, h3_, h4_⟩
  have HO394 : Aside0 (Kd.R k60 60 w11 w.heap.size (fun k_ => some k_ ≠ (v399 : Value).ownBlock) v393 t392) := ⟨h0_⟩
  have HO400 : Aside0 (Kd.R k60 60 w11 w.heap.size (fun k_ => some k_ ≠ (v393 : Value).ownBlock) v399 t398) := ⟨h1_⟩
  replace BK387 : Aside0 (w11.heap[gb387]? = some (.cells #[.int .u64 a0_0, .int .u64 a0_1, .int .i64 a0_2, .slice A0_3 l0_3.length c0_3] 27 (0, 0))) := ⟨h2_⟩
  replace BK388 : Aside0 (w11.heap[gb388]? = some (.cells #[.int .u64 a1_0, .int .u64 a1_1, .int .i64 a1_2, .slice A1_3 l1_3.length c1_3] 27 (0, 0))) := ⟨h3_⟩
  replace HB : Aside0 (Below w.heap.size w w11) := ⟨h4_⟩
  clear h0_ h1_ h2_ h3_ h4_
  have hHeld : w11.cell? ⟨gb387, 0, none⟩ = some (.int .u64 a0_0) ∧ w11.cell? ⟨gb387, 1, none⟩ = some (.int .u64 a0_1) ∧ w11.cell? ⟨gb387, 2, none⟩ = some (.int .i64 a0_2) ∧ w11.cell? ⟨gb387, 3, none⟩ = some (.slice A0_3 l0_3.length c0_3) ∧ w11.cell? ⟨gb388, 0, none⟩ = some (.int .u64 a1_0) ∧ w11.cell? ⟨gb388, 1, none⟩ = some (.int .u64 a1_1) ∧ w11.cell? ⟨gb388, 2, none⟩ = some (.int .i64 a1_2) ∧ w11.cell? ⟨gb388, 3, none⟩ = some (.slice A1_3 l1_3.length c1_3) := hS_
  refine norm_ (a' := ?_) ?_ ?_
  rotate_left
  ·simp only [putAll, Act.put, List.setIfInBounds_toArray, List.set_cons_zero, List.set_cons_succ]
   rfl
  refine two_ (i := 4) (j := 5) (Ni := some 5) (Nj := some 6) #[true, true, true, true, true, false, false, false] #[true, true, true, true, false, true, false, false] rfl rfl rfl rfl (two_of HT_.out (by kernel_rfl)) (by decide) (by decide) (fun K hK => ?_) (fun K hK => ?_)
  ·skip
   refine bx 5 #[.int .u64 0, .int .u64 0, .int .i64 0, .slice none 0 0] 30 ?_
   intro gb401 hg w12 hbox hb
   have n0_ := am (Kd.R_below (pr HO394.out) hb)
   have n1_ := am (Kd.R_below (pr HO400.out) hb)
   have n2_ := am (blk_below (pk BK387.out) hb)
   have n3_ := am (blk_below (pk BK388.out) hb)
   have n4_ := am (below_step (pb HB) hb)
   have n5_ := am (hbox)
   have n6_ := am ((pg hg HB : w.heap.size ≤ gb401))
   have n7_ := am ((pg hg HB : w.heap.size ≤ gb401))
   have n8_ := am ((pl hg (pk BK387.out) : gb387 ≠ gb401))
   have n9_ := am ((pl' hg (pk BK387.out) : gb401 ≠ gb387))
   have n10_ := am ((pl hg (pk BK388.out) : gb388 ≠ gb401))
   have n11_ := am ((pl' hg (pk BK388.out) : gb401 ≠ gb388))
   clear HO394 HO400 BK387 BK388 HB
   have HO394 := n0_
   have HO400 := n1_
   have BK387 := n2_
   have BK388 := n3_
   have HB := n4_
   have BK401 := n5_
   have GW401 := n6_
   have GE401 := n7_
   have NB387_401 := n8_
   have NB401_387 := n9_
   have NB388_401 := n10_
   have NB401_388 := n11_
   clear n0_ n1_ n2_ n3_ n4_ n5_ n6_ n7_ n8_ n9_ n10_ n11_ hb hbox hg
   refine hK.out _ _ ⟨ce BK387 0, ce BK387 1, ce BK387 2, ce BK387 3, ce BK388 0, ce BK388 1, ce BK388 2, ce BK388 3⟩ (fun hHeld => ?_)
   clear hK K
   refine nm ?_
   exact nj (hJ1_3_4 (v393, v399, gb401) _ ⟨hHeld, (pr HO394.out), (pr HO400.out), (pk BK387.out), (pk BK388.out), (pk BK401.out), GW401.out, GE401.out, NB387_401.out, NB401_387.out, NB388_401.out, NB401_388.out, (pb HB)⟩)
  skip
  refine bx 6 #[.int .u64 0, .int .u64 0, .int .i64 0, .slice none 0 0] 30 ?_
  intro gb402 hg w12 hbox hb
  have n0_ := am (Kd.R_below (pr HO394.out) hb)
  have n1_ := am (Kd.R_below (pr HO400.out) hb)
  have n2_ := am (blk_below (pk BK387.out) hb)
  have n3_ := am (blk_below (pk BK388.out) hb)
  have n4_ := am (below_step (pb HB) hb)
  have n5_ := am (hbox)
  have n6_ := am ((pg hg HB : w.heap.size ≤ gb402))
  have n7_ := am ((pg hg HB : w.heap.size ≤ gb402))
  have n8_ := am ((pl hg (pk BK387.out) : gb387 ≠ gb402))
  have n9_ := am ((pl' hg (pk BK387.out) : gb402 ≠ gb387))
  have n10_ := am ((pl hg (pk BK388.out) : gb388 ≠ gb402))
  have n11_ := am ((pl' hg (pk BK388.out) : gb402 ≠ gb388))
  clear HO394 HO400 BK387 BK388 HB
  have HO394 := n0_
  have HO400 := n1_
  have BK387 := n2_
  have BK388 := n3_
  have HB := n4_
  have BK402 := n5_
  have GW402 := n6_
  have GE402 := n7_
  have NB387_402 := n8_
  have NB402_387 := n9_
  have NB388_402 := n10_
  have NB402_388 := n11_
  clear n0_ n1_ n2_ n3_ n4_ n5_ n6_ n7_ n8_ n9_ n10_ n11_ hb hbox hg
  refine hK.out _ _ ⟨ce BK387 0, ce BK387 1, ce BK387 2, ce BK387 3, ce BK388 0, ce BK388 1, ce BK388 2, ce BK388 3⟩ (fun hHeld => ?_)
  clear hK K
  refine nm ?_
  exact nj (hJ1_3_5 (v393, v399, gb402) _ ⟨hHeld, (pr HO394.out), (pr HO400.out), (pk BK387.out), (pk BK388.out), (pk BK402.out), GW402.out, GE402.out, NB387_402.out, NB402_387.out, NB388_402.out, NB402_388.out, (pb HB)⟩)
 intro hJ1_3
 refine join_ (σ := Value × Nat) 4 #[true, true, true, false, true, false, false, false] (fun s_ => [(13, .agg #[.int .u64 t389, .int .u64 t390, .int .i64 t391, s_.1]), (5, .pointer (some ⟨s_.2, 0, none⟩))]) (fun s_ w' => (w'.cell? ⟨gb387, 0, none⟩ = some (.int .u64 a0_0) ∧ w'.cell? ⟨gb387, 1, none⟩ = some (.int .u64 a0_1) ∧ w'.cell? ⟨gb387, 2, none⟩ = some (.int .i64 a0_2) ∧ w'.cell? ⟨gb387, 3, none⟩ = some (.slice A0_3 l0_3.length c0_3) ∧ w'.cell? ⟨gb388, 0, none⟩ = some (.int .u64 a1_0) ∧ w'.cell? ⟨gb388, 1, none⟩ = some (.int .u64 a1_1) ∧ w'.cell? ⟨gb388, 2, none⟩ = some (.int .i64 a1_2) ∧ w'.cell? ⟨gb388, 3, none⟩ = some (.slice A1_3 l1_3.length c1_3)) ∧ (Kd.R k60 60 w' w.heap.size (fun _ => True) s_.1 t392) ∧ (w'.heap[gb387]? = some (.cells #[.int .u64 a0_0, .int .u64 a0_1, .int .i64 a0_2, .slice A0_3 l0_3.length c0_3] 27 (0, 0))) ∧ (w'.heap[gb388]? = some (.cells #[.int .u64 a1_0, .int .u64 a1_1, .int .i64 a1_2, .slice A1_3 l1_3.length c1_3] 27 (0, 0))) ∧ (w'.heap[s_.2]? = some (.cells #[.int .u64 0, .int .u64 0, .int .i64 0, .slice none 0 0] 30 (0, 0))) ∧ (w.heap.size ≤ s_.2) ∧ (w.heap.size ≤ s_.2) ∧ (gb387 ≠ s_.2) ∧ (s_.2 ≠ gb387) ∧ (gb388 ≠ s_.2) ∧ (s_.2 ≠ gb388) ∧ (Below w.heap.size w w')) ?_ ?_
 ·skip
  rintro ⟨v393, gb401⟩ w11 ⟨hS_, h0_, h1_, h2_, h3_, h4_, h5_, h6_, h7_, h8_, h9_, h10_⟩
  have HO394 : Aside0 (Kd.R k60 60 w11 w.heap.size (fun _ => True) v393 t392) := ⟨h0_⟩
  replace BK387 : Aside0 (w11.heap[gb387]? = some (.cells #[.int .u64 a0_0, .int .u64 a0_1, .int .i64 a0_2, .slice A0_3 l0_3.length c0_3] 27 (0, 0))) := ⟨h1_⟩
  replace BK388 : Aside0 (w11.heap[gb388]? = some (.cells #[.int .u64 a1_0, .int .u64 a1_1, .int .i64 a1_2, .slice A1_3 l1_3.length c1_3] 27 (0, 0))) := ⟨h2_⟩
  have BK401 : Aside0 (w11.heap[gb401]? = some (.cells #[.int .u64 0, .int .u64 0, .int .i64 0, .slice none 0 0] 30 (0, 0))) := ⟨h3_⟩
  have GW401 : Aside0 (w.heap.size ≤ gb401) := ⟨h4_⟩
  have GE401 : Aside0 (w.heap.size ≤ gb401) := ⟨h5_⟩
  have NB387_401 : Aside0 (gb387 ≠ gb401) := ⟨h6_⟩
  have NB401_387 : Aside0 (gb401 ≠ gb387) := ⟨h7_⟩
  have NB388_401 : Aside0 (gb388 ≠ gb401) := ⟨h8_⟩
  have NB401_388 : Aside0 (gb401 ≠ gb388) := ⟨h9_⟩
  replace HB : Aside0 (Below w.heap.size w w11) := ⟨h10_⟩
  clear h0_ h1_ h2_ h3_ h4_ h5_ h6_ h7_ h8_ h9_ h10_
  have hHeld : w11.cell? ⟨gb387, 0, none⟩ = some (.int .u64 a0_0) ∧ w11.cell? ⟨gb387, 1, none⟩ = some (.int .u64 a0_1) ∧ w11.cell? ⟨gb387, 2, none⟩ = some (.int .i64 a0_2) ∧ w11.cell? ⟨gb387, 3, none⟩ = some (.slice A0_3 l0_3.length c0_3) ∧ w11.cell? ⟨gb388, 0, none⟩ = some (.int .u64 a1_0) ∧ w11.cell? ⟨gb388, 1, none⟩ = some (.int .u64 a1_1) ∧ w11.cell? ⟨gb388, 2, none⟩ = some (.int .i64 a1_2) ∧ w11.cell? ⟨gb388, 3, none⟩ = some (.slice A1_3 l1_3.length c1_3) := hS_
  refine norm_ (a' := ?_) ?_ ?_
  rotate_left
  ·simp only [putAll, Act.put, List.setIfInBounds_toArray, List.set_cons_zero, List.set_cons_succ]
   rfl
  refine two_ (i := 3) (j := 5) (Ni := some 15) (Nj := some 6) #[true, true, true, true, true, false, false, false] #[true, true, true, false, true, true, false, false] rfl rfl rfl rfl (two_of HT_.out (by kernel_rfl)) (by decide) (by decide) (fun K hK => ?_) (fun K hK => ?_)
  ·skip
   refine gs Try.func9 #[.agg #[.int .u64 a1_0, .int .u64 a1_1, .int .i64 a1_2, .slice A1_3 l1_3.length c1_3]] ?_
   with_reducible refine (l14_ref.calls k a1_0 a1_1 a1_2 _ _ l1_3 t395 t396 t397 t398 _ ?side1 ?side2 A4.out).mono ?_
   (case side1 => repeat (first | exact (Kd.C_below HR1_3.out HB.out) | (with_reducible refine Kd.C_alloc ?_ _) | (with_reducible refine Kd.C_drewN ?_ _) | (with_reducible refine Kd.C_drew ?_)))
   (case side2 => exact HC1_3.out)
   rintro e w12 ⟨v399, rfl, ho0, hb⟩
   refine ⟨_, rfl, ?_⟩
   have n0_ := am (Kd.R_elder' (pr HO394.out) (Kd.R_base ho0) hb)
   have n1_ := am (Kd.R_lower (Kd.R_new' ho0 (Kd.R_lt (pr HO394.out))) (below_size (pb HB)))
   have n2_ := am (blk_below (pk BK387.out) hb)
   have n3_ := am (blk_below (pk BK388.out) hb)
   have n4_ := am (blk_below (pk BK401.out) hb)
   have n5_ := am (below_step (pb HB) hb)
   clear HO394 BK387 BK388 BK401 HB
   have HO394 := n0_
   have HO400 := n1_
   have BK387 := n2_
   have BK388 := n3_
   have BK401 := n4_
   have HB := n5_
   clear n0_ n1_ n2_ n3_ n4_ n5_
   (try clear hb)
   (try clear hb2)
   (try clear hk)
   (try clear hi)
   (try clear ho0)
   refine hK.out _ _ ⟨ce BK387 0, ce BK387 1, ce BK387 2, ce BK387 3, ce BK388 0, ce BK388 1, ce BK388 2, ce BK388 3⟩ (fun hHeld => ?_)
   clear hK K
   refine nm ?_
   exact nj (hJ1_3_4 (v393, v399, gb401) _ ⟨hHeld, (pr (Kd.R_mono HO394.out (fun _ hk => hk.2))), (pr (Kd.R_mono HO400.out (fun _ hk => hk.2))), (pk BK387.out), (pk BK388.out), (pk BK401.out), GW401.out, GE401.out, NB387_401.out, NB401_387.out, NB388_401.out, NB401_388.out, (pb HB)⟩)
  skip
  refine bx 6 #[.int .u64 0, .int .u64 0, .int .i64 0, .slice none 0 0] 30 ?_
  intro gb402 hg w12 hbox hb
  have n0_ := am (Kd.R_below (pr HO394.out) hb)
  have n1_ := am (blk_below (pk BK387.out) hb)
  have n2_ := am (blk_below (pk BK388.out) hb)
  have n3_ := am (blk_below (pk BK401.out) hb)
  have n4_ := am (below_step (pb HB) hb)
  have n5_ := am (hbox)
  have n6_ := am ((pg hg HB : w.heap.size ≤ gb402))
  have n7_ := am ((pg hg HB : w.heap.size ≤ gb402))
  have n8_ := am ((pl hg (pk BK387.out) : gb387 ≠ gb402))
  have n9_ := am ((pl' hg (pk BK387.out) : gb402 ≠ gb387))
  have n10_ := am ((pl hg (pk BK388.out) : gb388 ≠ gb402))
  have n11_ := am ((pl' hg (pk BK388.out) : gb402 ≠ gb388))
  have n12_ := am ((pl hg (pk BK401.out) : gb401 ≠ gb402))
  have n13_ := am ((pl' hg (pk BK401.out) : gb402 ≠ gb401))
  clear HO394 BK387 BK388 BK401 HB
  have HO394 := n0_
  have BK387 := n1_
  have BK388 := n2_
  have BK401 := n3_
  have HB := n4_
  have BK402 := n5_
  have GW402 := n6_
  have GE402 := n7_
  have NB387_402 := n8_
  have NB402_387 := n9_
  have NB388_402 := n10_
  have NB402_388 := n11_
  have NB401_402 := n12_
  have NB402_401 := n13_
  clear n0_ n1_ n2_ n3_ n4_ n5_ n6_ n7_ n8_ n9_ n10_ n11_ n12_ n13_ hb hbox hg
  refine hK.out _ _ ⟨ce BK387 0, ce BK387 1, ce BK387 2, ce BK387 3, ce BK388 0, ce BK388 1, ce BK388 2, ce BK388 3⟩ (fun hHeld => ?_)
  clear hK K
  refine nm ?_
  exact nj (hJ1_4_5 (v393, gb401, gb402) _ ⟨hHeld, (pr HO394.out), (pk BK387.out), (pk BK388.out), (pk BK401.out), (pk BK402.out), GW401.out, GE401.out, NB387_401.out, NB401_387.out, NB388_401.out, NB401_388.out, NB402_401.out, NB401_402.out, GW402.out, GE402.out, NB387_402.out, NB402_387.out, NB388_402.out, NB402_388.out, (pb HB)⟩)
 intro hJ1_4
 refine join_ (σ := Value × Nat) 4 #[true, true, true, false, false, true, false, false] (fun s_ => [(13, .agg #[.int .u64 t389, .int .u64 t390, .int .i64 t391, s_.1]), (6, .pointer (some ⟨s_.2, 0, none⟩))]) (fun s_ w' => (w'.cell? ⟨gb387, 0, none⟩ = some (.int .u64 a0_0) ∧ w'.cell? ⟨gb387, 1, none⟩ = some (.int .u64 a0_1) ∧ w'.cell? ⟨gb387, 2, none⟩ = some (.int .i64 a0_2) ∧ w'.cell? ⟨gb387, 3, none⟩ = some (.slice A0_3 l0_3.length c0_3) ∧ w'.cell? ⟨gb388, 0, none⟩ = some (.int .u64 a1_0) ∧ w'.cell? ⟨gb388, 1, none⟩ = some (.int .u64 a1_1) ∧ w'.cell? ⟨gb388, 2, none⟩ = some (.int .i64 a1_2) ∧ w'.cell? ⟨gb388, 3, none⟩ = some (.slice A1_3 l1_3.length c1_3)) ∧ (Kd.R k60 60 w' w.heap.size (fun _ => True) s_.1 t392) ∧ (w'.heap[gb387]? = some (.cells #[.int .u64 a0_0, .int .u64 a0_1, .int .i64 a0_2, .slice A0_3 l0_3.length c0_3] 27 (0, 0))) ∧ (w'.heap[gb388]? = some (.cells #[.int .u64 a1_0, .int .u64 a1_1, .int .i64 a1_2, .slice A1_3 l1_3.length c1_3] 27 (0, 0))) ∧ (w'.heap[s_.2]? = some (.cells #[.int .u64 0, .int .u64 0, .int .i64 0, .slice none 0 0] 30 (0, 0))) ∧ (w.heap.size ≤ s_.2) ∧ (w.heap.size ≤ s_.2) ∧ (gb387 ≠ s_.2) ∧ (s_.2 ≠ gb387) ∧ (gb388 ≠ s_.2) ∧ (s_.2 ≠ gb388) ∧ (Below w.heap.size w w')) ?_ ?_
 ·skip
  rintro ⟨v393, gb402⟩ w11 ⟨hS_, h0_, h1_, h2_, h3_, h4_, h5_, h6_, h7_, h8_, h9_, h10_⟩
  have HO394 : Aside0 (Kd.R k60 60 w11 w.heap.size (fun _ => True) v393 t392) := ⟨h0_⟩
  replace BK387 : Aside0 (w11.heap[gb387]? = some (.cells #[.int .u64 a0_0, .int .u64 a0_1, .int .i64 a0_2, .slice A0_3 l0_3.length c0_3] 27 (0, 0))) := ⟨h1_⟩
  replace BK388 : Aside0 (w11.heap[gb388]? = some (.cells #[.int .u64 a1_0, .int .u64 a1_1, .int .i64 a1_2, .slice A1_3 l1_3.length c1_3] 27 (0, 0))) := ⟨h2_⟩
  have BK402 : Aside0 (w11.heap[gb402]? = some (.cells #[.int .u64 0, .int .u64 0, .int .i64 0, .slice none 0 0] 30 (0, 0))) := ⟨h3_⟩
  have GW402 : Aside0 (w.heap.size ≤ gb402) := ⟨h4_⟩
  have GE402 : Aside0 (w.heap.size ≤ gb402) := ⟨h5_⟩
  have NB387_402 : Aside0 (gb387 ≠ gb402) := ⟨h6_⟩
  have NB402_387 : Aside0 (gb402 ≠ gb387) := ⟨h7_⟩
  have NB388_402 : Aside0 (gb388 ≠ gb402) := ⟨h8_⟩
  have NB402_388 : Aside0 (gb402 ≠ gb388) := ⟨h9_⟩
  replace HB : Aside0 (Below w.heap.size w w11) := ⟨h10_⟩
  clear h0_ h1_ h2_ h3_ h4_ h5_ h6_ h7_ h8_ h9_ h10_
  have hHeld : w11.cell? ⟨gb387, 0, none⟩ = some (.int .u64 a0_0) ∧ w11.cell? ⟨gb387, 1, none⟩ = some (.int .u64 a0_1) ∧ w11.cell? ⟨gb387, 2, none⟩ = some (.int .i64 a0_2) ∧ w11.cell? ⟨gb387, 3, none⟩ = some (.slice A0_3 l0_3.length c0_3) ∧ w11.cell? ⟨gb388, 0, none⟩ = some (.int .u64 a1_0) ∧ w11.cell? ⟨gb388, 1, none⟩ = some (.int .u64 a1_1) ∧ w11.cell? ⟨gb388, 2, none⟩ = some (.int .i64 a1_2) ∧ w11.cell? ⟨gb388, 3, none⟩ = some (.slice A1_3 l1_3.length c1_3) := hS_
  refine norm_ (a' := ?_) ?_ ?_
  rotate_left
  ·simp only [putAll, Act.put, List.setIfInBounds_toArray, List.set_cons_zero, List.set_cons_succ]
   rfl
  refine two_ (i := 3) (j := 4) (Ni := some 15) (Nj := some 5) #[true, true, true, true, false, true, false, false] #[true, true, true, false, true, true, false, false] rfl rfl rfl rfl (two_of HT_.out (by kernel_rfl)) (by decide) (by decide) (fun K hK => ?_) (fun K hK => ?_)
  ·skip
   refine gs Try.func9 #[.agg #[.int .u64 a1_0, .int .u64 a1_1, .int .i64 a1_2, .slice A1_3 l1_3.length c1_3]] ?_
   with_reducible refine (l14_ref.calls k a1_0 a1_1 a1_2 _ _ l1_3 t395 t396 t397 t398 _ ?side1 ?side2 A4.out).mono ?_
   (case side1 => repeat (first | exact (Kd.C_below HR1_3.out HB.out) | (with_reducible refine Kd.C_alloc ?_ _) | (with_reducible refine Kd.C_drewN ?_ _) | (with_reducible refine Kd.C_drew ?_)))
   (case side2 => exact HC1_3.out)
   rintro e w12 ⟨v399, rfl, ho0, hb⟩
   refine ⟨_, rfl, ?_⟩
   have n0_ := am (Kd.R_elder' (pr HO394.out) (Kd.R_base ho0) hb)
   have n1_ := am (Kd.R_lower (Kd.R_new' ho0 (Kd.R_lt (pr HO394.out))) (below_size (pb HB)))
   have n2_ := am (blk_below (pk BK387.out) hb)
   have n3_ := am (blk_below (pk BK388.out) hb)
   have n4_ := am (blk_below (pk BK402.out) hb)
   have n5_ := am (below_step (pb HB) hb)
   clear HO394 BK387 BK388 BK402 HB
   have HO394 := n0_
   have HO400 := n1_
   have BK387 := n2_
   have BK388 := n3_
   have BK402 := n4_
   have HB := n5_
   clear n0_ n1_ n2_ n3_ n4_ n5_
   (try clear hb)
   (try clear hb2)
   (try clear hk)
   (try clear hi)
   (try clear ho0)
   refine hK.out _ _ ⟨ce BK387 0, ce BK387 1, ce BK387 2, ce BK387 3, ce BK388 0, ce BK388 1, ce BK388 2, ce BK388 3⟩ (fun hHeld => ?_)
   clear hK K
   refine nm ?_
   exact nj (hJ1_3_5 (v393, v399, gb402) _ ⟨hHeld, (pr (Kd.R_mono HO394.out (fun _ hk => hk.2))), (pr (Kd.R_mono HO400.out (fun _ hk => hk.2))), (pk BK387.out), (pk BK388.out), (pk BK402.out), GW402.out, GE402.out, NB387_402.out, NB402_387.out, NB388_402.out, NB402_388.out, (pb HB)⟩)
  skip
  refine bx 5 #[.int .u64 0, .int .u64 0, .int .i64 0, .slice none 0 0] 30 ?_
  intro gb401 hg w12 hbox hb
  have n0_ := am (Kd.R_below (pr HO394.out) hb)
  have n1_ := am (blk_below (pk BK387.out) hb)
  have n2_ := am (blk_below (pk BK388.out) hb)
  have n3_ := am (blk_below (pk BK402.out) hb)
  have n4_ := am (below_step (pb HB) hb)
  have n5_ := am (hbox)
  have n6_ := am ((pg hg HB : w.heap.size ≤ gb401))
  have n7_ := am ((pg hg HB : w.heap.size ≤ gb401))
  have n8_ := am ((pl hg (pk BK387.out) : gb387 ≠ gb401))
  have n9_ := am ((pl' hg (pk BK387.out) : gb401 ≠ gb387))
  have n10_ := am ((pl hg (pk BK388.out) : gb388 ≠ gb401))
  have n11_ := am ((pl' hg (pk BK388.out) : gb401 ≠ gb388))
  have n12_ := am ((pl hg (pk BK402.out) : gb402 ≠ gb401))
  have n13_ := am ((pl' hg (pk BK402.out) : gb401 ≠ gb402))
  clear HO394 BK387 BK388 BK402 HB
  have HO394 := n0_
  have BK387 := n1_
  have BK388 := n2_
  have BK402 := n3_
  have HB := n4_
  have BK401 := n5_
  have GW401 := n6_
  have GE401 := n7_
  have NB387_401 := n8_
  have NB401_387 := n9_
  have NB388_401 := n10_
  have NB401_388 := n11_
  have NB402_401 := n12_
  have NB401_402 := n13_
  clear n0_ n1_ n2_ n3_ n4_ n5_ n6_ n7_ n8_ n9_ n10_ n11_ n12_ n13_ hb hbox hg
  refine hK.out _ _ ⟨ce BK387 0, ce BK387 1, ce BK387 2, ce BK387 3, ce BK388 0, ce BK388 1, ce BK388 2, ce BK388 3⟩ (fun hHeld => ?_)
  clear hK K
  refine nm ?_
  exact nj (hJ1_4_5 (v393, gb401, gb402) _ ⟨hHeld, (pr HO394.out), (pk BK387.out), (pk BK388.out), (pk BK401.out), (pk BK402.out), GW401.out, GE401.out, NB387_401.out, NB401_387.out, NB388_401.out, NB401_388.out, NB402_401.out, NB401_402.out, GW402.out, GE402.out, NB387_402.out, NB402_387.out, NB388_402.out, NB402_388.out, (pb HB)⟩)
 intro hJ1_5
 refine join_ (σ := Nat × Nat) 4 #[true, false, true, false, true, true, false, false] (fun s_ => [(5, .pointer (some ⟨s_.1, 0, none⟩)), (6, .pointer (some ⟨s_.2, 0, none⟩))]) (fun s_ w' => (w'.cell? ⟨gb387, 0, none⟩ = some (.int .u64 a0_0) ∧ w'.cell? ⟨gb387, 1, none⟩ = some (.int .u64 a0_1) ∧ w'.cell? ⟨gb387, 2, none⟩ = some (.int .i64 a0_2) ∧ w'.cell? ⟨gb387, 3, none⟩ = some (.slice A0_3 l0_3.length c0_3) ∧ w'.cell? ⟨gb388, 0, none⟩ = some (.int .u64 a1_0) ∧ w'.cell? ⟨gb388, 1, none⟩ = some (.int .u64 a1_1) ∧ w'.cell? ⟨gb388, 2, none⟩ = some (.int .i64 a1_2) ∧ w'.cell? ⟨gb388, 3, none⟩ = some (.slice A1_3 l1_3.length c1_3)) ∧ (w'.heap[gb387]? = some (.cells #[.int .u64 a0_0, .int .u64 a0_1, .int .i64 a0_2, .slice A0_3 l0_3.length c0_3] 27 (0, 0))) ∧ (w'.heap[gb388]? = some (.cells #[.int .u64 a1_0, .int .u64 a1_1, .int .i64 a1_2, .slice A1_3 l1_3.length c1_3] 27 (0, 0))) ∧ (w'.heap[s_.1]? = some (.cells #[.int .u64 0, .int .u64 0, .int .i64 0, .slice none 0 0] 30 (0, 0))) ∧ (w'.heap[s_.2]? = some (.cells #[.int .u64 0, .int .u64 0, .int .i64 0, .slice none 0 0] 30 (0, 0))) ∧ (w.heap.size ≤ s_.1) ∧ (w.heap.size ≤ s_.1) ∧ (gb387 ≠ s_.1) ∧ (s_.1 ≠ gb387) ∧ (gb388 ≠ s_.1) ∧ (s_.1 ≠ gb388) ∧ (s_.2 ≠ s_.1) ∧ (s_.1 ≠ s_.2) ∧ (w.heap.size ≤ s_.2) ∧ (w.heap.size ≤ s_.2) ∧ (gb387 ≠ s_.2) ∧ (s_.2 ≠ gb387) ∧ (gb388 ≠ s_.2) ∧ (s_.2 ≠ gb388) ∧ (Below w.heap.size w w')) ?_ ?_
 ·skip
  rintro ⟨gb401, gb402⟩ w11 ⟨hS_, h0_, h1_, h2_, h3_, h4_, h5_, h6_, h7_, h8_, h9_, h10_, h11_, h12_, h13_, h14_, h15_, h16_, h17_, h18_⟩
  replace BK387 : Aside0 (w11.heap[gb387]? = some (.cells #[.int .u64 a0_0, .int .u64 a0_1, .int .i64 a0_2, .slice A0_3 l0_3.length c0_3] 27 (0, 0))) := ⟨h0_⟩
  replace BK388 : Aside0 (w11.heap[gb388]? = some (.cells #[.int .u64 a1_0, .int .u64 a1_1, .int .i64 a1_2, .slice A1_3 l1_3.length c1_3] 27 (0, 0))) := ⟨h1_⟩
  have BK401 : Aside0 (w11.heap[gb401]? = some (.cells #[.int .u64 0, .int .u64 0, .int .i64 0, .slice none 0 0] 30 (0, 0))) := ⟨h2_⟩
  have BK402 : Aside0 (w11.heap[gb402]? = some (.cells #[.int .u64 0, .int .u64 0, .int .i64 0, .slice none 0 0] 30 (0, 0))) := ⟨h3_⟩
  have GW401 : Aside0 (w.heap.size ≤ gb401) := ⟨h4_⟩
  have GE401 : Aside0 (w.heap.size ≤ gb401) := ⟨h5_⟩
  have NB387_401 : Aside0 (gb387 ≠ gb401) := ⟨h6_⟩
  have NB401_387 : Aside0 (gb401 ≠ gb387) := ⟨h7_⟩
  have NB388_401 : Aside0 (gb388 ≠ gb401) := ⟨h8_⟩
  have NB401_388 : Aside0 (gb401 ≠ gb388) := ⟨h9_⟩
  have NB402_401 : Aside0 (gb402 ≠ gb401) := ⟨h10_⟩
  have NB401_402 : Aside0 (gb401 ≠ gb402) := ⟨h11_⟩
  have GW402 : Aside0 (w.heap.size ≤ gb402) := ⟨h12_⟩
  have GE402 : Aside0 (w.heap.size ≤ gb402) := ⟨h13_⟩
  have NB387_402 : Aside0 (gb387 ≠ gb402) := ⟨h14_⟩
  have NB402_387 : Aside0 (gb402 ≠ gb387) := ⟨h15_⟩
  have NB388_402 : Aside0 (gb388 ≠ gb402) := ⟨h16_⟩
  have NB402_388 : Aside0 (gb402 ≠ gb388) := ⟨h17_⟩
  replace HB : Aside0 (Below w.heap.size w w11) := ⟨h18_⟩
  clear h0_ h1_ h2_ h3_ h4_ h5_ h6_ h7_ h8_ h9_ h10_ h11_ h12_ h13_ h14_ h15_ h16_ h17_ h18_
  have hHeld : w11.cell? ⟨gb387, 0, none⟩ = some (.int .u64 a0_0) ∧ w11.cell? ⟨gb387, 1, none⟩ = some (.int .u64 a0_1) ∧ w11.cell? ⟨gb387, 2, none⟩ = some (.int .i64 a0_2) ∧ w11.cell? ⟨gb387, 3, none⟩ = some (.slice A0_3 l0_3.length c0_3) ∧ w11.cell? ⟨gb388, 0, none⟩ = some (.int .u64 a1_0) ∧ w11.cell? ⟨gb388, 1, none⟩ = some (.int .u64 a1_1) ∧ w11.cell? ⟨gb388, 2, none⟩ = some (.int .i64 a1_2) ∧ w11.cell? ⟨gb388, 3, none⟩ = some (.slice A1_3 l1_3.length c1_3) := hS_
  refine norm_ (a' := ?_) ?_ ?_
  rotate_left
  ·simp only [putAll, Act.put, List.setIfInBounds_toArray, List.set_cons_zero, List.set_cons_succ]
   rfl
  refine on1 1 (fun K hK => ?_)
  refine gs Try.func9 #[.agg #[.int .u64 a0_0, .int .u64 a0_1, .int .i64 a0_2, .slice A0_3 l0_3.length c0_3]] ?_
  with_reducible refine (l14_ref.calls k a0_0 a0_1 a0_2 _ _ l0_3 t389 t390 t391 t392 _ ?side1 ?side2 A3.out).mono ?_
  (case side1 => repeat (first | exact (Kd.C_below HR0_3.out HB.out) | (with_reducible refine Kd.C_alloc ?_ _) | (with_reducible refine Kd.C_drewN ?_ _) | (with_reducible refine Kd.C_drew ?_)))
  (case side2 => exact HC0_3.out)
  rintro e w12 ⟨v393, rfl, ho0, hb⟩
  refine ⟨_, rfl, ?_⟩
  have HO394 := am (Kd.R_lower ho0 (below_size (pb HB)))
  replace BK387 := am (blk_below (pk BK387.out) hb)
  replace BK388 := am (blk_below (pk BK388.out) hb)
  replace BK401 := am (blk_below (pk BK401.out) hb)
  replace BK402 := am (blk_below (pk BK402.out) hb)
  replace HB := am (below_step (pb HB) hb)
  (try clear hb)
  (try clear hb2)
  (try clear hk)
  (try clear hi)
  (try clear ho0)
  refine hK.out _ _ ⟨ce BK387 0, ce BK387 1, ce BK387 2, ce BK387 3, ce BK388 0, ce BK388 1, ce BK388 2, ce BK388 3⟩ (fun hHeld => ?_)
  clear hK K
  refine nm ?_
  exact nj (hJ1_4_5 (v393, gb401, gb402) _ ⟨hHeld, (pr HO394.out), (pk BK387.out), (pk BK388.out), (pk BK401.out), (pk BK402.out), GW401.out, GE401.out, NB387_401.out, NB401_387.out, NB388_401.out, NB401_388.out, NB402_401.out, NB401_402.out, GW402.out, GE402.out, NB387_402.out, NB402_387.out, NB388_402.out, NB402_388.out, (pb HB)⟩)
 intro hJ4_5
 refine join_ (σ := Value) 5 #[true, true, true, false, false, false, false, false] (fun s_ => [(13, .agg #[.int .u64 t389, .int .u64 t390, .int .i64 t391, s_])]) (fun s_ w' => (w'.cell? ⟨gb387, 0, none⟩ = some (.int .u64 a0_0) ∧ w'.cell? ⟨gb387, 1, none⟩ = some (.int .u64 a0_1) ∧ w'.cell? ⟨gb387, 2, none⟩ = some (.int .i64 a0_2) ∧ w'.cell? ⟨gb387, 3, none⟩ = some (.slice A0_3 l0_3.length c0_3) ∧ w'.cell? ⟨gb388, 0, none⟩ = some (.int .u64 a1_0) ∧ w'.cell? ⟨gb388, 1, none⟩ = some (.int .u64 a1_1) ∧ w'.cell? ⟨gb388, 2, none⟩ = some (.int .i64 a1_2) ∧ w'.cell? ⟨gb388, 3, none⟩ = some (.slice A1_3 l1_3.length c1_3)) ∧ (Kd.R k60 60 w' w.heap.size (fun _ => True) s_ t392) ∧ (w'.heap[gb387]? = some (.cells #[.int .u64 a0_0, .int .u64 a0_1, .int .i64 a0_2, .slice A0_3 l0_3.length c0_3] 27 (0, 0))) ∧ (w'.heap[gb388]? = some (.cells #[.int .u64 a1_0, .int .u64 a1_1, .int .i64 a1_2, .slice A1_3 l1_3.length c1_3] 27 (0, 0))) ∧ (Below w.heap.size w w')) ?_ ?_
 ·skip
  rintro v393 w10 ⟨hS_, h0_, h1_, h2_, h3_⟩
  have HO394 : Aside0 (Kd.R k60 60 w10 w.heap.size (fun _ => True) v393 t392) := ⟨h0_⟩
  replace BK387 : Aside0 (w10.heap[gb387]? = some (.cells #[.int .u64 a0_0, .int .u64 a0_1, .int .i64 a0_2, .slice A0_3 l0_3.length c0_3] 27 (0, 0))) := ⟨h1_⟩
  replace BK388 : Aside0 (w10.heap[gb388]? = some (.cells #[.int .u64 a1_0, .int .u64 a1_1, .int .i64 a1_2, .slice A1_3 l1_3.length c1_3] 27 (0, 0))) := ⟨h2_⟩
  replace HB : Aside0 (Below w.heap.size w w10) := ⟨h3_⟩
  clear h0_ h1_ h2_ h3_
  have hHeld : w10.cell? ⟨gb387, 0, none⟩ = some (.int .u64 a0_0) ∧ w10.cell? ⟨gb387, 1, none⟩ = some (.int .u64 a0_1) ∧ w10.cell? ⟨gb387, 2, none⟩ = some (.int .i64 a0_2) ∧ w10.cell? ⟨gb387, 3, none⟩ = some (.slice A0_3 l0_3.length c0_3) ∧ w10.cell? ⟨gb388, 0, none⟩ = some (.int .u64 a1_0) ∧ w10.cell? ⟨gb388, 1, none⟩ = some (.int .u64 a1_1) ∧ w10.cell? ⟨gb388, 2, none⟩ = some (.int .i64 a1_2) ∧ w10.cell? ⟨gb388, 3, none⟩ = some (.slice A1_3 l1_3.length c1_3) := hS_
  refine norm_ (a' := ?_) ?_ ?_
  rotate_left
  ·simp only [putAll, Act.put, List.setIfInBounds_toArray, List.set_cons_zero, List.set_cons_succ]
   rfl
  refine three_ (i := 3) (j := 4) (k := 5) (Ni := some 15) (Nj := some 5) (Nk := some 6) #[true, true, true, true, false, false, false, false] #[true, true, true, false, true, false, false, false] #[true, true, true, false, false, true, false, false] rfl rfl rfl rfl rfl rfl (three_of HT_.out (by kernel_rfl)) (by decide) (by decide) (by decide) (fun K hK => ?_) (fun K hK => ?_) (fun K hK => ?_)
  ·skip
   refine gs Try.func9 #[.agg #[.int .u64 a1_0, .int .u64 a1_1, .int .i64 a1_2, .slice A1_3 l1_3.length c1_3]] ?_
   with_reducible refine (l14_ref.calls k a1_0 a1_1 a1_2 _ _ l1_3 t395 t396 t397 t398 _ ?side1 ?side2 A4.out).mono ?_
   (case side1 => repeat (first | exact (Kd.C_below HR1_3.out HB.out) | (with_reducible refine Kd.C_alloc ?_ _) | (with_reducible refine Kd.C_drewN ?_ _) | (with_reducible refine Kd.C_drew ?_)))
   (case side2 => exact HC1_3.out)
   rintro e w11 ⟨v399, rfl, ho0, hb⟩
   refine ⟨_, rfl, ?_⟩
   have n0_ := am (Kd.R_elder' (pr HO394.out) (Kd.R_base ho0) hb)
   have n1_ := am (Kd.R_lower (Kd.R_new' ho0 (Kd.R_lt (pr HO394.out))) (below_size (pb HB)))
   have n2_ := am (blk_below (pk BK387.out) hb)
   have n3_ := am (blk_below (pk BK388.out) hb)
   have n4_ := am (below_step (pb HB) hb)
   clear HO394 BK387 BK388 HB
   have HO394 := n0_
   have HO400 := n1_
   have BK387 := n2_
   have BK388 := n3_
   have HB := n4_
   clear n0_ n1_ n2_ n3_ n4_
   (try clear hb)
   (try clear hb2)
   (try clear hk)
   (try clear hi)
   (try clear ho0)
   refine hK.out _ _ ⟨ce BK387 0, ce BK387 1, ce BK387 2, ce BK387 3, ce BK388 0, ce BK388 1, ce BK388 2, ce BK388 3⟩ (fun hHeld => ?_)
   clear hK K
   refine nm ?_
   exact nj (hJ1_3 (v393, v399) _ ⟨hHeld, (pr (Kd.R_mono HO394.out (fun _ hk => hk.2))), (pr (Kd.R_mono HO400.out (fun _ hk => hk.2))), (pk BK387.out), (pk BK388.out), (pb HB)⟩)
  ·skip
   refine bx 5 #[.int .u64 0, .int .u64 0, .int .i64 0, .slice none 0 0] 30 ?_
   intro gb401 hg w11 hbox hb
   have n0_ := am (Kd.R_below (pr HO394.out) hb)
   have n1_ := am (blk_below (pk BK387.out) hb)
   have n2_ := am (blk_below (pk BK388.out) hb)
   have n3_ := am (below_step (pb HB) hb)
   have n4_ := am (hbox)
   have n5_ := am ((pg hg HB : w.heap.size ≤ gb401))
   have n6_ := am ((pg hg HB : w.heap.size ≤ gb401))
   have n7_ := am ((pl hg (pk BK387.out) : gb387 ≠ gb401))
   have n8_ := am ((pl' hg (pk BK387.out) : gb401 ≠ gb387))
   have n9_ := am ((pl hg (pk BK388.out) : gb388 ≠ gb401))
   have n10_ := am ((pl' hg (pk BK388.out) : gb401 ≠ gb388))
   clear HO394 BK387 BK388 HB
   have HO394 := n0_
   have BK387 := n1_
   have BK388 := n2_
   have HB := n3_
   have BK401 := n4_
   have GW401 := n5_
   have GE401 := n6_
   have NB387_401 := n7_
   have NB401_387 := n8_
   have NB388_401 := n9_
   have NB401_388 := n10_
   clear n0_ n1_ n2_ n3_ n4_ n5_ n6_ n7_ n8_ n9_ n10_ hb hbox hg
   refine hK.out _ _ ⟨ce BK387 0, ce BK387 1, ce BK387 2, ce BK387 3, ce BK388 0, ce BK388 1, ce BK388 2, ce BK388 3⟩ (fun hHeld => ?_)
   clear hK K
   refine nm ?_
   exact nj (hJ1_4 (v393, gb401) _ ⟨hHeld, (pr HO394.out), (pk BK387.out), (pk BK388.out), (pk BK401.out), GW401.out, GE401.out, NB387_401.out, NB401_387.out, NB388_401.out, NB401_388.out, (pb HB)⟩)
  skip
  refine bx 6 #[.int .u64 0, .int .u64 0, .int .i64 0, .slice none 0 0] 30 ?_
  intro gb402 hg w11 hbox hb
  have n0_ := am (Kd.R_below (pr HO394.out) hb)
  have n1_ := am (blk_below (pk BK387.out) hb)
  have n2_ := am (blk_below (pk BK388.out) hb)
  have n3_ := am (below_step (pb HB) hb)
  have n4_ := am (hbox)
  have n5_ := am ((pg hg HB : w.heap.size ≤ gb402))
  have n6_ := am ((pg hg HB : w.heap.size ≤ gb402))
  have n7_ := am ((pl hg (pk BK387.out) : gb387 ≠ gb402))
  have n8_ := am ((pl' hg (pk BK387.out) : gb402 ≠ gb387))
  have n9_ := am ((pl hg (pk BK388.out) : gb388 ≠ gb402))
  have n10_ := am ((pl' hg (pk BK388.out) : gb402 ≠ gb388))
  clear HO394 BK387 BK388 HB
  have HO394 := n0_
  have BK387 := n1_
  have BK388 := n2_
  have HB := n3_
  have BK402 := n4_
  have GW402 := n5_
  have GE402 := n6_
  have NB387_402 := n7_
  have NB402_387 := n8_
  have NB388_402 := n9_
  have NB402_388 := n10_
  clear n0_ n1_ n2_ n3_ n4_ n5_ n6_ n7_ n8_ n9_ n10_ hb hbox hg
  refine hK.out _ _ ⟨ce BK387 0, ce BK387 1, ce BK387 2, ce BK387 3, ce BK388 0, ce BK388 1, ce BK388 2, ce BK388 3⟩ (fun hHeld => ?_)
  clear hK K
  refine nm ?_
  exact nj (hJ1_5 (v393, gb402) _ ⟨hHeld, (pr HO394.out), (pk BK387.out), (pk BK388.out), (pk BK402.out), GW402.out, GE402.out, NB387_402.out, NB402_387.out, NB388_402.out, NB402_388.out, (pb HB)⟩)
 intro hJ1
 refine join_ (σ := Nat) 5 #[true, false, true, false, true, false, false, false] (fun s_ => [(5, .pointer (some ⟨s_, 0, none⟩))]) (fun s_ w' => (w'.cell? ⟨gb387, 0, none⟩ = some (.int .u64 a0_0) ∧ w'.cell? ⟨gb387, 1, none⟩ = some (.int .u64 a0_1) ∧ w'.cell? ⟨gb387, 2, none⟩ = some (.int .i64 a0_2) ∧ w'.cell? ⟨gb387, 3, none⟩ = some (.slice A0_3 l0_3.length c0_3) ∧ w'.cell? ⟨gb388, 0, none⟩ = some (.int .u64 a1_0) ∧ w'.cell? ⟨gb388, 1, none⟩ = some (.int .u64 a1_1) ∧ w'.cell? ⟨gb388, 2, none⟩ = some (.int .i64 a1_2) ∧ w'.cell? ⟨gb388, 3, none⟩ = some (.slice A1_3 l1_3.length c1_3)) ∧ (w'.heap[gb387]? = some (.cells #[.int .u64 a0_0, .int .u64 a0_1, .int .i64 a0_2, .slice A0_3 l0_3.length c0_3] 27 (0, 0))) ∧ (w'.heap[gb388]? = some (.cells #[.int .u64 a1_0, .int .u64 a1_1, .int .i64 a1_2, .slice A1_3 l1_3.length c1_3] 27 (0, 0))) ∧ (w'.heap[s_]? = some (.cells #[.int .u64 0, .int .u64 0, .int .i64 0, .slice none 0 0] 30 (0, 0))) ∧ (w.heap.size ≤ s_) ∧ (w.heap.size ≤ s_) ∧ (gb387 ≠ s_) ∧ (s_ ≠ gb387) ∧ (gb388 ≠ s_) ∧ (s_ ≠ gb388) ∧ (Below w.heap.size w w')) ?_ ?_
 ·skip
  rintro gb401 w10 ⟨hS_, h0_, h1_, h2_, h3_, h4_, h5_, h6_, h7_, h8_, h9_⟩
  replace BK387 : Aside0 (w10.heap[gb387]? = some (.cells #[.int .u64 a0_0, .int .u64 a0_1, .int .i64 a0_2, .slice A0_3 l0_3.length c0_3] 27 (0, 0))) := ⟨h0_⟩
  replace BK388 : Aside0 (w10.heap[gb388]? = some (.cells #[.int .u64 a1_0, .int .u64 a1_1, .int .i64 a1_2, .slice A1_3 l1_3.length c1_3] 27 (0, 0))) := ⟨h1_⟩
  have BK401 : Aside0 (w10.heap[gb401]? = some (.cells #[.int .u64 0, .int .u64 0, .int .i64 0, .slice none 0 0] 30 (0, 0))) := ⟨h2_⟩
  have GW401 : Aside0 (w.heap.size ≤ gb401) := ⟨h3_⟩
  have GE401 : Aside0 (w.heap.size ≤ gb401) := ⟨h4_⟩
  have NB387_401 : Aside0 (gb387 ≠ gb401) := ⟨h5_⟩
  have NB401_387 : Aside0 (gb401 ≠ gb387) := ⟨h6_⟩
  have NB388_401 : Aside0 (gb388 ≠ gb401) := ⟨h7_⟩
  have NB401_388 : Aside0 (gb401 ≠ gb388) := ⟨h8_⟩
  replace HB : Aside0 (Below w.heap.size w w10) := ⟨h9_⟩
  clear h0_ h1_ h2_ h3_ h4_ h5_ h6_ h7_ h8_ h9_
  have hHeld : w10.cell? ⟨gb387, 0, none⟩ = some (.int .u64 a0_0) ∧ w10.cell? ⟨gb387, 1, none⟩ = some (.int .u64 a0_1) ∧ w10.cell? ⟨gb387, 2, none⟩ = some (.int .i64 a0_2) ∧ w10.cell? ⟨gb387, 3, none⟩ = some (.slice A0_3 l0_3.length c0_3) ∧ w10.cell? ⟨gb388, 0, none⟩ = some (.int .u64 a1_0) ∧ w10.cell? ⟨gb388, 1, none⟩ = some (.int .u64 a1_1) ∧ w10.cell? ⟨gb388, 2, none⟩ = some (.int .i64 a1_2) ∧ w10.cell? ⟨gb388, 3, none⟩ = some (.slice A1_3 l1_3.length c1_3) := hS_
  refine norm_ (a' := ?_) ?_ ?_
  rotate_left
  ·simp only [putAll, Act.put, List.setIfInBounds_toArray, List.set_cons_zero, List.set_cons_succ]
   rfl
  refine two_ (i := 1) (j := 5) (Ni := some 13) (Nj := some 6) #[true, true, true, false, true, false, false, false] #[true, false, true, false, true, true, false, false] rfl rfl rfl rfl (two_of HT_.out (by kernel_rfl)) (by decide) (by decide) (fun K hK => ?_) (fun K hK => ?_)
  ·skip
   refine gs Try.func9 #[.agg #[.int .u64 a0_0, .int .u64 a0_1, .int .i64 a0_2, .slice A0_3 l0_3.length c0_3]] ?_
   with_reducible refine (l14_ref.calls k a0_0 a0_1 a0_2 _ _ l0_3 t389 t390 t391 t392 _ ?side1 ?side2 A3.out).mono ?_
   (case side1 => repeat (first | exact (Kd.C_below HR0_3.out HB.out) | (with_reducible refine Kd.C_alloc ?_ _) | (with_reducible refine Kd.C_drewN ?_ _) | (with_reducible refine Kd.C_drew ?_)))
   (case side2 => exact HC0_3.out)
   rintro e w11 ⟨v393, rfl, ho0, hb⟩
   refine ⟨_, rfl, ?_⟩
   have HO394 := am (Kd.R_lower ho0 (below_size (pb HB)))
   replace BK387 := am (blk_below (pk BK387.out) hb)
   replace BK388 := am (blk_below (pk BK388.out) hb)
   replace BK401 := am (blk_below (pk BK401.out) hb)
   replace HB := am (below_step (pb HB) hb)
   (try clear hb)
   (try clear hb2)
   (try clear hk)
   (try clear hi)
   (try clear ho0)
   refine hK.out _ _ ⟨ce BK387 0, ce BK387 1, ce BK387 2, ce BK387 3, ce BK388 0, ce BK388 1, ce BK388 2, ce BK388 3⟩ (fun hHeld => ?_)
   clear hK K
   refine nm ?_
   exact nj (hJ1_4 (v393, gb401) _ ⟨hHeld, (pr HO394.out), (pk BK387.out), (pk BK388.out), (pk BK401.out), GW401.out, GE401.out, NB387_401.out, NB401_387.out, NB388_401.out, NB401_388.out, (pb HB)⟩)
  skip
  refine bx 6 #[.int .u64 0, .int .u64 0, .int .i64 0, .slice none 0 0] 30 ?_
  intro gb402 hg w11 hbox hb
  have n0_ := am (blk_below (pk BK387.out) hb)
  have n1_ := am (blk_below (pk BK388.out) hb)
  have n2_ := am (blk_below (pk BK401.out) hb)
  have n3_ := am (below_step (pb HB) hb)
  have n4_ := am (hbox)
  have n5_ := am ((pg hg HB : w.heap.size ≤ gb402))
  have n6_ := am ((pg hg HB : w.heap.size ≤ gb402))
  have n7_ := am ((pl hg (pk BK387.out) : gb387 ≠ gb402))
  have n8_ := am ((pl' hg (pk BK387.out) : gb402 ≠ gb387))
  have n9_ := am ((pl hg (pk BK388.out) : gb388 ≠ gb402))
  have n10_ := am ((pl' hg (pk BK388.out) : gb402 ≠ gb388))
  have n11_ := am ((pl hg (pk BK401.out) : gb401 ≠ gb402))
  have n12_ := am ((pl' hg (pk BK401.out) : gb402 ≠ gb401))
  clear BK387 BK388 BK401 HB
  have BK387 := n0_
  have BK388 := n1_
  have BK401 := n2_
  have HB := n3_
  have BK402 := n4_
  have GW402 := n5_
  have GE402 := n6_
  have NB387_402 := n7_
  have NB402_387 := n8_
  have NB388_402 := n9_
  have NB402_388 := n10_
  have NB401_402 := n11_
  have NB402_401 := n12_
  clear n0_ n1_ n2_ n3_ n4_ n5_ n6_ n7_ n8_ n9_ n10_ n11_ n12_ hb hbox hg
  refine hK.out _ _ ⟨ce BK387 0, ce BK387 1, ce BK387 2, ce BK387 3, ce BK388 0, ce BK388 1, ce BK388 2, ce BK388 3⟩ (fun hHeld => ?_)
  clear hK K
  refine nm ?_
  exact nj (hJ4_5 (gb401, gb402) _ ⟨hHeld, (pk BK387.out), (pk BK388.out), (pk BK401.out), (pk BK402.out), GW401.out, GE401.out, NB387_401.out, NB401_387.out, NB388_401.out, NB401_388.out, NB402_401.out, NB401_402.out, GW402.out, GE402.out, NB387_402.out, NB402_387.out, NB388_402.out, NB402_388.out, (pb HB)⟩)
 intro hJ4
 refine join_ (σ := Nat) 5 #[true, false, true, false, false, true, false, false] (fun s_ => [(6, .pointer (some ⟨s_, 0, none⟩))]) (fun s_ w' => (w'.cell? ⟨gb387, 0, none⟩ = some (.int .u64 a0_0) ∧ w'.cell? ⟨gb387, 1, none⟩ = some (.int .u64 a0_1) ∧ w'.cell? ⟨gb387, 2, none⟩ = some (.int .i64 a0_2) ∧ w'.cell? ⟨gb387, 3, none⟩ = some (.slice A0_3 l0_3.length c0_3) ∧ w'.cell? ⟨gb388, 0, none⟩ = some (.int .u64 a1_0) ∧ w'.cell? ⟨gb388, 1, none⟩ = some (.int .u64 a1_1) ∧ w'.cell? ⟨gb388, 2, none⟩ = some (.int .i64 a1_2) ∧ w'.cell? ⟨gb388, 3, none⟩ = some (.slice A1_3 l1_3.length c1_3)) ∧ (w'.heap[gb387]? = some (.cells #[.int .u64 a0_0, .int .u64 a0_1, .int .i64 a0_2, .slice A0_3 l0_3.length c0_3] 27 (0, 0))) ∧ (w'.heap[gb388]? = some (.cells #[.int .u64 a1_0, .int .u64 a1_1, .int .i64 a1_2, .slice A1_3 l1_3.length c1_3] 27 (0, 0))) ∧ (w'.heap[s_]? = some (.cells #[.int .u64 0, .int .u64 0, .int .i64 0, .slice none 0 0] 30 (0, 0))) ∧ (w.heap.size ≤ s_) ∧ (w.heap.size ≤ s_) ∧ (gb387 ≠ s_) ∧ (s_ ≠ gb387) ∧ (gb388 ≠ s_) ∧ (s_ ≠ gb388) ∧ (Below w.heap.size w w')) ?_ ?_
 ·skip
  rintro gb402 w10 ⟨hS_, h0_, h1_, h2_, h3_, h4_, h5_, h6_, h7_, h8_, h9_⟩
  replace BK387 : Aside0 (w10.heap[gb387]? = some (.cells #[.int .u64 a0_0, .int .u64 a0_1, .int .i64 a0_2, .slice A0_3 l0_3.length c0_3] 27 (0, 0))) := ⟨h0_⟩
  replace BK388 : Aside0 (w10.heap[gb388]? = some (.cells #[.int .u64 a1_0, .int .u64 a1_1, .int .i64 a1_2, .slice A1_3 l1_3.length c1_3] 27 (0, 0))) := ⟨h1_⟩
  have BK402 : Aside0 (w10.heap[gb402]? = some (.cells #[.int .u64 0, .int .u64 0, .int .i64 0, .slice none 0 0] 30 (0, 0))) := ⟨h2_⟩
  have GW402 : Aside0 (w.heap.size ≤ gb402) := ⟨h3_⟩
  have GE402 : Aside0 (w.heap.size ≤ gb402) := ⟨h4_⟩
  have NB387_402 : Aside0 (gb387 ≠ gb402) := ⟨h5_⟩
  have NB402_387 : Aside0 (gb402 ≠ gb387) := ⟨h6_⟩
  have NB388_402 : Aside0 (gb388 ≠ gb402) := ⟨h7_⟩
  have NB402_388 : Aside0 (gb402 ≠ gb388) := ⟨h8_⟩
  replace HB : Aside0 (Below w.heap.size w w10) := ⟨h9_⟩
  clear h0_ h1_ h2_ h3_ h4_ h5_ h6_ h7_ h8_ h9_
  have hHeld : w10.cell? ⟨gb387, 0, none⟩ = some (.int .u64 a0_0) ∧ w10.cell? ⟨gb387, 1, none⟩ = some (.int .u64 a0_1) ∧ w10.cell? ⟨gb387, 2, none⟩ = some (.int .i64 a0_2) ∧ w10.cell? ⟨gb387, 3, none⟩ = some (.slice A0_3 l0_3.length c0_3) ∧ w10.cell? ⟨gb388, 0, none⟩ = some (.int .u64 a1_0) ∧ w10.cell? ⟨gb388, 1, none⟩ = some (.int .u64 a1_1) ∧ w10.cell? ⟨gb388, 2, none⟩ = some (.int .i64 a1_2) ∧ w10.cell? ⟨gb388, 3, none⟩ = some (.slice A1_3 l1_3.length c1_3) := hS_
  refine norm_ (a' := ?_) ?_ ?_
  rotate_left
  ·simp only [putAll, Act.put, List.setIfInBounds_toArray, List.set_cons_zero, List.set_cons_succ]
   rfl
  refine two_ (i := 1) (j := 4) (Ni := some 13) (Nj := some 5) #[true, true, true, false, false, true, false, false] #[true, false, true, false, true, true, false, false] rfl rfl rfl rfl (two_of HT_.out (by kernel_rfl)) (by decide) (by decide) (fun K hK => ?_) (fun K hK => ?_)
  ·skip
   refine gs Try.func9 #[.agg #[.int .u64 a0_0, .int .u64 a0_1, .int .i64 a0_2, .slice A0_3 l0_3.length c0_3]] ?_
   with_reducible refine (l14_ref.calls k a0_0 a0_1 a0_2 _ _ l0_3 t389 t390 t391 t392 _ ?side1 ?side2 A3.out).mono ?_
   (case side1 => repeat (first | exact (Kd.C_below HR0_3.out HB.out) | (with_reducible refine Kd.C_alloc ?_ _) | (with_reducible refine Kd.C_drewN ?_ _) | (with_reducible refine Kd.C_drew ?_)))
   (case side2 => exact HC0_3.out)
   rintro e w11 ⟨v393, rfl, ho0, hb⟩
   refine ⟨_, rfl, ?_⟩
   have HO394 := am (Kd.R_lower ho0 (below_size (pb HB)))
   replace BK387 := am (blk_below (pk BK387.out) hb)
   replace BK388 := am (blk_below (pk BK388.out) hb)
   replace BK402 := am (blk_below (pk BK402.out) hb)
   replace HB := am (below_step (pb HB) hb)
   (try clear hb)
   (try clear hb2)
   (try clear hk)
   (try clear hi)
   (try clear ho0)
   refine hK.out _ _ ⟨ce BK387 0, ce BK387 1, ce BK387 2, ce BK387 3, ce BK388 0, ce BK388 1, ce BK388 2, ce BK388 3⟩ (fun hHeld => ?_)
   clear hK K
   refine nm ?_
   exact nj (hJ1_5 (v393, gb402) _ ⟨hHeld, (pr HO394.out), (pk BK387.out), (pk BK388.out), (pk BK402.out), GW402.out, GE402.out, NB387_402.out, NB402_387.out, NB388_402.out, NB402_388.out, (pb HB)⟩)
  skip
  refine bx 5 #[.int .u64 0, .int .u64 0, .int .i64 0, .slice none 0 0] 30 ?_
  intro gb401 hg w11 hbox hb
  have n0_ := am (blk_below (pk BK387.out) hb)
  have n1_ := am (blk_below (pk BK388.out) hb)
  have n2_ := am (blk_below (pk BK402.out) hb)
  have n3_ := am (below_step (pb HB) hb)
  have n4_ := am (hbox)
  have n5_ := am ((pg hg HB : w.heap.size ≤ gb401))
  have n6_ := am ((pg hg HB : w.heap.size ≤ gb401))
  have n7_ := am ((pl hg (pk BK387.out) : gb387 ≠ gb401))
  have n8_ := am ((pl' hg (pk BK387.out) : gb401 ≠ gb387))
  have n9_ := am ((pl hg (pk BK388.out) : gb388 ≠ gb401))
  have n10_ := am ((pl' hg (pk BK388.out) : gb401 ≠ gb388))
  have n11_ := am ((pl hg (pk BK402.out) : gb402 ≠ gb401))
  have n12_ := am ((pl' hg (pk BK402.out) : gb401 ≠ gb402))
  clear BK387 BK388 BK402 HB
  have BK387 := n0_
  have BK388 := n1_
  have BK402 := n2_
  have HB := n3_
  have BK401 := n4_
  have GW401 := n5_
  have GE401 := n6_
  have NB387_401 := n7_
  have NB401_387 := n8_
  have NB388_401 := n9_
  have NB401_388 := n10_
  have NB402_401 := n11_
  have NB401_402 := n12_
  clear n0_ n1_ n2_ n3_ n4_ n5_ n6_ n7_ n8_ n9_ n10_ n11_ n12_ hb hbox hg
  refine hK.out _ _ ⟨ce BK387 0, ce BK387 1, ce BK387 2, ce BK387 3, ce BK388 0, ce BK388 1, ce BK388 2, ce BK388 3⟩ (fun hHeld => ?_)
  clear hK K
  refine nm ?_
  exact nj (hJ4_5 (gb401, gb402) _ ⟨hHeld, (pk BK387.out), (pk BK388.out), (pk BK401.out), (pk BK402.out), GW401.out, GE401.out, NB387_401.out, NB401_387.out, NB388_401.out, NB401_388.out, NB402_401.out, NB401_402.out, GW402.out, GE402.out, NB387_402.out, NB402_387.out, NB388_402.out, NB402_388.out, (pb HB)⟩)
 intro hJ5
 refine three_ (i := 1) (j := 4) (k := 5) (Ni := some 13) (Nj := some 5) (Nk := some 6) #[true, true, true, false, false, false, false, false] #[true, false, true, false, true, false, false, false] #[true, false, true, false, false, true, false, false] rfl rfl rfl rfl rfl rfl (three_of HT_.out (by kernel_rfl)) (by decide) (by decide) (by decide) (fun K hK => ?_) (fun K hK => ?_) (fun K hK => ?_)
 ·skip
  refine gs Try.func9 #[.agg #[.int .u64 a0_0, .int .u64 a0_1, .int .i64 a0_2, .slice A0_3 l0_3.length c0_3]] ?_
  with_reducible refine (l14_ref.calls k a0_0 a0_1 a0_2 _ _ l0_3 t389 t390 t391 t392 _ ?side1 ?side2 A3.out).mono ?_
  (case side1 => repeat (first | exact (Kd.C_below HR0_3.out HB.out) | (with_reducible refine Kd.C_alloc ?_ _) | (with_reducible refine Kd.C_drewN ?_ _) | (with_reducible refine Kd.C_drew ?_)))
  (case side2 => exact HC0_3.out)
  rintro e w9 ⟨v393, rfl, ho0, hb⟩
  refine ⟨_, rfl, ?_⟩
  have HO394 := am (Kd.R_lower ho0 (below_size (pb HB)))
  replace BK387 := am (blk_below (pk BK387.out) hb)
  replace BK388 := am (blk_below (pk BK388.out) hb)
  replace HB := am (below_step (pb HB) hb)
  (try clear hb)
  (try clear hb2)
  (try clear hk)
  (try clear hi)
  (try clear ho0)
  refine hK.out _ _ ⟨ce BK387 0, ce BK387 1, ce BK387 2, ce BK387 3, ce BK388 0, ce BK388 1, ce BK388 2, ce BK388 3⟩ (fun hHeld => ?_)
  clear hK K
  refine nm ?_
  exact nj (hJ1 (v393) _ ⟨hHeld, (pr HO394.out), (pk BK387.out), (pk BK388.out), (pb HB)⟩)
 ·skip
  refine bx 5 #[.int .u64 0, .int .u64 0, .int .i64 0, .slice none 0 0] 30 ?_
  intro gb401 hg w9 hbox hb
  have n0_ := am (blk_below (pk BK387.out) hb)
  have n1_ := am (blk_below (pk BK388.out) hb)
  have n2_ := am (below_step (pb HB) hb)
  have n3_ := am (hbox)
  have n4_ := am ((pg hg HB : w.heap.size ≤ gb401))
  have n5_ := am ((pg hg HB : w.heap.size ≤ gb401))
  have n6_ := am ((pl hg (pk BK387.out) : gb387 ≠ gb401))
  have n7_ := am ((pl' hg (pk BK387.out) : gb401 ≠ gb387))
  have n8_ := am ((pl hg (pk BK388.out) : gb388 ≠ gb401))
  have n9_ := am ((pl' hg (pk BK388.out) : gb401 ≠ gb388))
  clear BK387 BK388 HB
  have BK387 := n0_
  have BK388 := n1_
  have HB := n2_
  have BK401 := n3_
  have GW401 := n4_
  have GE401 := n5_
  have NB387_401 := n6_
  have NB401_387 := n7_
  have NB388_401 := n8_
  have NB401_388 := n9_
  clear n0_ n1_ n2_ n3_ n4_ n5_ n6_ n7_ n8_ n9_ hb hbox hg
  refine hK.out _ _ ⟨ce BK387 0, ce BK387 1, ce BK387 2, ce BK387 3, ce BK388 0, ce BK388 1, ce BK388 2, ce BK388 3⟩ (fun hHeld => ?_)
  clear hK K
  refine nm ?_
  exact nj (hJ4 (gb401) _ ⟨hHeld, (pk BK387.out), (pk BK388.out), (pk BK401.out), GW401.out, GE401.out, NB387_401.out, NB401_387.out, NB388_401.out, NB401_388.out, (pb HB)⟩)
 skip
 refine bx 6 #[.int .u64 0, .int .u64 0, .int .i64 0, .slice none 0 0] 30 ?_
 intro gb402 hg w9 hbox hb
 have n0_ := am (blk_below (pk BK387.out) hb)
 have n1_ := am (blk_below (pk BK388.out) hb)
 have n2_ := am (below_step (pb HB) hb)
 have n3_ := am (hbox)
 have n4_ := am ((pg hg HB : w.heap.size ≤ gb402))
 have n5_ := am ((pg hg HB : w.heap.size ≤ gb402))
 have n6_ := am ((pl hg (pk BK387.out) : gb387 ≠ gb402))
 have n7_ := am ((pl' hg (pk BK387.out) : gb402 ≠ gb387))
 have n8_ := am ((pl hg (pk BK388.out) : gb388 ≠ gb402))
 have n9_ := am ((pl' hg (pk BK388.out) : gb402 ≠ gb388))
 clear BK387 BK388 HB
 have BK387 := n0_
 have BK388 := n1_
 have HB := n2_
 have BK402 := n3_
 have GW402 := n4_
 have GE402 := n5_
 have NB387_402 := n6_
 have NB402_387 := n7_
 have NB388_402 := n8_
 have NB402_388 := n9_
 clear n0_ n1_ n2_ n3_ n4_ n5_ n6_ n7_ n8_ n9_ hb hbox hg
 refine hK.out _ _ ⟨ce BK387 0, ce BK387 1, ce BK387 2, ce BK387 3, ce BK388 0, ce BK388 1, ce BK388 2, ce BK388 3⟩ (fun hHeld => ?_)
 clear hK K
 refine nm ?_
 exact nj (hJ5 (gb402) _ ⟨hHeld, (pk BK387.out), (pk BK388.out), (pk BK402.out), GW402.out, GE402.out, NB387_402.out, NB402_387.out, NB388_402.out, NB402_388.out, (pb HB)⟩)
end Go.Proofs.Ytmfffbafldbihaa.H
