import Derived.Test.YtojpmjkphgjmgaaHx0
import Derived.Test.YtojpmjkphgjmgaaHx13
import Derived.Test.YtojpmjkphgjmgaaHx15
namespace Go.Proofs.Ytojpmjkphgjmgaa.H
open Go.RowKit Go.Proofs.YtojpmjkphgjmgaaW.PrintWords Go.Proofs.YtojpmjkphgjmgaaW.PrintLast Go.Proofs.YtojpmjkphgjmgaaW.PrintMore Go.Proofs.YtojpmjkphgjmgaaW.Sq
attribute [local go_sem] max2_int min2_int max_two min_two max_three min_three max_four min_four
set_option linter.unusedVariables false
set_option linter.unusedSimpArgs false

mutual
def r12_Delete.l0 : Nat → Int → Int → Int → Int → Int → List (S46) → Option (Int × Int × (List (S46)) × Int)
 | 0, _, _, _, _, _, _ => none
 | k + 1, x6, x7, x9, x381000, x381001, x381002 => if 0 ≤ x9 then (if x9 < (x381002.length : Int) then (if (rd_T46 x381002 x9).f0 = true then ((r12_Home.f k x381000 x381001 x381002 ((rd_T46 x381002 x9).f1)).bind fun t383 => (r12_Delete.l1 k x6 x7 x9 false t383 x381000 x381001 x381002)) else (some (x381000, x381001, x381002, 0))) else (none)) else (none)
def r12_Delete.j2 : Nat → Int → Int → Int → Bool → Int → Int → List (S46) → Option (Int × Int × (List (S46)) × Int)
 | 0, _, _, _, _, _, _, _ => none
 | k + 1, x6, x7, x9, x10, x381000, x381001, x381002 => if x10 = true then (if 0 ≤ x9 then (if x9 < (x381002.length : Int) then ((r12_set.f x381000 x381001 x381002 x6 ((rd_T46 x381002 x9).f0) ((rd_T46 x381002 x9).f1) ((rd_T46 x381002 x9).f2)).bind fun bt386 => ((r12_set.f bt386.1 bt386.2.1 bt386.2.2 x9 false (⟨#[]⟩ : ByteArray) 0).bind fun bt391 => (if x7 = 0 then (none) else (r12_Delete.l0 k x9 x7 (Int.tmod (wrap64 (x9 + 1)) x7) bt391.1 bt391.2.1 bt391.2.2)))) else (none)) else (none)) else (if x7 = 0 then (none) else (r12_Delete.l0 k x6 x7 (Int.tmod (wrap64 (x9 + 1)) x7) x381000 x381001 x381002))
def r12_Delete.l1 : Nat → Int → Int → Int → Bool → Int → Int → Int → List (S46) → Option (Int × Int × (List (S46)) × Int)
 | 0, _, _, _, _, _, _, _, _ => none
 | k + 1, x6, x7, x9, x10, x11, x381000, x381001, x381002 => if x10 = true then (if x11 = x9 then (r12_Delete.j2 k x6 x7 x9 true x381000 x381001 x381002) else (if x7 = 0 then (none) else (r12_Delete.l1 k x6 x7 x9 true (Int.tmod (wrap64 (x11 + 1)) x7) x381000 x381001 x381002))) else (if x11 = x9 then (r12_Delete.j2 k x6 x7 x9 (x11 == x6) x381000 x381001 x381002) else (if x7 = 0 then (none) else (r12_Delete.l1 k x6 x7 x9 (x11 == x6) (Int.tmod (wrap64 (x11 + 1)) x7) x381000 x381001 x381002)))
end
def r12_Delete.f (k : Nat) (a0_0 : Int) (a0_1 : Int) (l0_2 : List (S46)) (a1 : ByteArray) : Option (Int × Int × (List (S46)) × Int) := (r12_Find.f k a0_0 a0_1 l0_2 a1).bind fun t374 => (if t374 < 0 then (some (a0_0, a0_1, l0_2, 3)) else ((r12_set.f a0_0 a0_1 l0_2 t374 false (⟨#[]⟩ : ByteArray) 0).bind fun bt375 => (if (l0_2.length : Int) = 0 then (none) else (r12_Delete.l0 k t374 (l0_2.length : Int) (Int.tmod (wrap64 (t374 + 1)) (l0_2.length : Int)) bt375.1 bt375.2.1 bt375.2.2))))
theorem r12_Delete.mono_l : ∀ k, (∀ y0 y1 y2 y3 y4 y5, LeO (r12_Delete.l0 k y0 y1 y2 y3 y4 y5) (r12_Delete.l0 (k + 1) y0 y1 y2 y3 y4 y5)) ∧ (∀ y0 y1 y2 y3 y4 y5 y6, LeO (r12_Delete.j2 k y0 y1 y2 y3 y4 y5 y6) (r12_Delete.j2 (k + 1) y0 y1 y2 y3 y4 y5 y6)) ∧ (∀ y0 y1 y2 y3 y4 y5 y6 y7, LeO (r12_Delete.l1 k y0 y1 y2 y3 y4 y5 y6 y7) (r12_Delete.l1 (k + 1) y0 y1 y2 y3 y4 y5 y6 y7))
 | 0 => ⟨fun _ _ _ _ _ _ r h => by simp [r12_Delete.l0] at h, fun _ _ _ _ _ _ _ r h => by simp [r12_Delete.j2] at h, fun _ _ _ _ _ _ _ _ r h => by simp [r12_Delete.l1] at h⟩
 | k + 1 => by
  obtain ⟨ih0, ih1, ih2⟩ := r12_Delete.mono_l k
  refine ⟨?_, ?_, ?_⟩
  ·intro y0 y1 y2 y3 y4 y5
   unfold r12_Delete.l0
   repeat' first
   | (with_reducible exact ih0 _ _ _ _ _ _)
   | (with_reducible exact ih1 _ _ _ _ _ _ _)
   | (with_reducible exact ih2 _ _ _ _ _ _ _ _)
   | (with_reducible exact r12_Find.mono _ _ _ _ _)
   | (with_reducible exact r12_Home.mono _ _ _ _ _)
   | (with_reducible exact LeO.refl _)
   | (with_reducible exact LeO.none _)
   | (with_reducible refine LeO.ite ?_ ?_)
   | (with_reducible refine LeO.bind ?_ (fun _ => ?_))
  ·intro y0 y1 y2 y3 y4 y5 y6
   unfold r12_Delete.j2
   repeat' first
   | (with_reducible exact ih0 _ _ _ _ _ _)
   | (with_reducible exact ih1 _ _ _ _ _ _ _)
   | (with_reducible exact ih2 _ _ _ _ _ _ _ _)
   | (with_reducible exact r12_Find.mono _ _ _ _ _)
   | (with_reducible exact r12_Home.mono _ _ _ _ _)
   | (with_reducible exact LeO.refl _)
   | (with_reducible exact LeO.none _)
   | (with_reducible refine LeO.ite ?_ ?_)
   | (with_reducible refine LeO.bind ?_ (fun _ => ?_))
  ·intro y0 y1 y2 y3 y4 y5 y6 y7
   unfold r12_Delete.l1
   repeat' first
   | (with_reducible exact ih0 _ _ _ _ _ _)
   | (with_reducible exact ih1 _ _ _ _ _ _ _)
   | (with_reducible exact ih2 _ _ _ _ _ _ _ _)
   | (with_reducible exact r12_Find.mono _ _ _ _ _)
   | (with_reducible exact r12_Home.mono _ _ _ _ _)
   | (with_reducible exact LeO.refl _)
   | (with_reducible exact LeO.none _)
   | (with_reducible refine LeO.ite ?_ ?_)
   | (with_reducible refine LeO.bind ?_ (fun _ => ?_))
theorem r12_Delete.mono : ∀ a0 a1 a2 a3 k, LeO (r12_Delete.f k a0 a1 a2 a3) (r12_Delete.f (k + 1) a0 a1 a2 a3) := by
 intro a0 a1 a2 a3 k
 obtain ⟨ih0, ih1, ih2⟩ := r12_Delete.mono_l k
 unfold r12_Delete.f
 repeat' first
   | (with_reducible exact ih0 _ _ _ _ _ _)
   | (with_reducible exact ih1 _ _ _ _ _ _ _)
   | (with_reducible exact ih2 _ _ _ _ _ _ _ _)
   | (with_reducible exact r12_Find.mono _ _ _ _ _)
   | (with_reducible exact r12_Home.mono _ _ _ _ _)
   | (with_reducible exact LeO.refl _)
   | (with_reducible exact LeO.none _)
   | (with_reducible refine LeO.ite ?_ ?_)
   | (with_reducible refine LeO.bind ?_ (fun _ => ?_))
def r12_Delete.T10 : Bool × List (List Nat × List Nat) := (true, [([], []), ([], []), ([1], [1]), ([], []), ([2, 3], [2, 3]), ([4], [4]), ([5], [5]), ([0, 6], [0, 6]), ([7, 7, 0, 1, 2, 3, 4, 5, 6, 7], [7])])
def r12_Delete.B10 : List Nat := [0, 0, 2, 0, 14, 30, 62, 127, 255]
theorem r12_Delete.tab10 : rtab .any (opsOf Try.f21 10) = r12_Delete.T10 := by kernel_rfl
theorem r12_Delete.bits10 : waitsOk r12_Delete.T10.2 r12_Delete.B10 = true := by kernel_rfl
set_option maxHeartbeats 8000000 in
set_option maxRecDepth 100000 in
theorem r12_Delete.calls (k : Nat) (a0_0 : Int) (a0_1 : Int) (P0_2_ : Nat → Prop) (A0_2 : Option Addr) (c0_2 : Nat) (l0_2 : List (S46)) (a1 : ByteArray) (r1 : Int) (r2 : Int) (r3 : List (S46)) (r4 : Int) (w : World) (hs0_2 : Kd.V k46 46 w w.heap.size (fun k_ => P0_2_ k_) (.slice A0_2 l0_2.length c0_2) l0_2) (h : r12_Delete.f k a0_0 a0_1 l0_2 a1 = some (r1, r2, r3, r4)) :
  Calls Try.prog 21 #[.agg #[.int .u64 a0_0, .int .u64 a0_1, .slice A0_2 l0_2.length c0_2], .string a1] w fun e w' => ∃ v2_ : Value, e = .returned (.tuple #[.agg #[.int .u64 r1, .int .u64 r2, v2_], .int .i64 r4]) ∧ Kd.V k46 46 w' w.heap.size (fun k_ => (P0_2_ k_ ∨ w.heap.size ≤ k_)) v2_ r3 ∧ Below w.heap.size w w' := by
 have hu30 := Try.underlying30
 have hu46 := Try.underlying46
 have HO0_2 := am (show Kd.V k46 46 w w.heap.size (fun k_ => (P0_2_ k_ ∨ w.heap.size ≤ k_)) (.slice A0_2 l0_2.length c0_2) l0_2 from Kd.V_mono hs0_2 (fun k_ hk => .inl hk))
 have HB := am (Below.refl w.heap.size w)
 have H : ((r12_Find.f k a0_0 a0_1 l0_2 a1).bind fun t374 => (if t374 < 0 then (some (a0_0, a0_1, l0_2, 3)) else ((r12_set.f a0_0 a0_1 l0_2 t374 false (⟨#[]⟩ : ByteArray) 0).bind fun bt375 => (if (l0_2.length : Int) = 0 then (none) else (r12_Delete.l0 k t374 (l0_2.length : Int) (Int.tmod (wrap64 (t374 + 1)) (l0_2.length : Int)) bt375.1 bt375.2.1 bt375.2.2))))) = some (r1, r2, r3, r4) := h
 clear h
 replace H := Option.bind_eq_some_iff.mp H
 obtain ⟨t374, A30, H⟩ := H
 replace H : (if t374 < 0 then (some (a0_0, a0_1, l0_2, 3)) else ((r12_set.f a0_0 a0_1 l0_2 t374 false (⟨#[]⟩ : ByteArray) 0).bind fun bt375 => (if (l0_2.length : Int) = 0 then (none) else (r12_Delete.l0 k t374 (l0_2.length : Int) (Int.tmod (wrap64 (t374 + 1)) (l0_2.length : Int)) bt375.1 bt375.2.1 bt375.2.2)))) = some (r1, r2, r3, r4) := H
 have A3 := am A30
 clear A30
 by_cases c4 : t374 < 0
 ·rw [if_pos c4] at H
  have c4b0 : decide (t374 < 0) = true := decide_eq_true c4
  clear c4
  simp only [Option.some.injEq, Prod.mk.injEq] at H
  obtain ⟨rfl, rfl, rfl, rfl⟩ := H
  go_enter Try.func21, Try.ntmps21
  go_wp2_with (first | ((with_reducible refine gate_dst (N := 2) rfl ?_); refine be 2 #[.int .u64 a0_0, .int .u64 a0_1, .slice A0_2 l0_2.length c0_2] 30 ?_; intro gb372 hg w5 hbox hb; have n0_ := am (Kd.V_below (Kd.V_elderB (pv HO0_2.out) gb372 (Nat.le_of_eq hg.symm)) hb); have n1_ := am (below_step (pb HB) hb); have n2_ := am (hbox); have n3_ := am ((pg hg HB : w.heap.size ≤ gb372)); have n4_ := am ((pg hg HB : w.heap.size ≤ gb372)); clear HO0_2; clear HB; have HO0_2 := n0_; have HB := n1_; have BK372 := n2_; have GW372 := n3_; have GE372 := n4_; clear n0_ n1_ n2_ n3_ n4_; clear hb hbox hg) | ((with_reducible refine gate_dst (N := 4) rfl ?_); refine be 4 #[.int .u64 0, .int .u64 0, .slice none 0 0] 30 ?_; intro gb373 hg w6 hbox hb; have n0_ := am (Kd.V_below (Kd.V_elderB (pv HO0_2.out) gb373 (Nat.le_of_eq hg.symm)) hb); have n1_ := am (blk_below (pk BK372.out) hb); have n2_ := am (below_step (pb HB) hb); have n3_ := am (hbox); have n4_ := am ((pg hg HB : w.heap.size ≤ gb373)); have n5_ := am ((pg hg HB : w.heap.size ≤ gb373)); have n6_ := am ((pl hg (pk BK372.out) : gb372 ≠ gb373)); have n7_ := am ((pl' hg (pk BK372.out) : gb373 ≠ gb372)); clear HO0_2; clear BK372; clear HB; have HO0_2 := n0_; have BK372 := n1_; have HB := n2_; have BK373 := n3_; have GW373 := n4_; have GE373 := n5_; have NB372_373 := n6_; have NB373_372 := n7_; clear n0_ n1_ n2_ n3_ n4_ n5_ n6_ n7_; clear hb hbox hg; have hnb7 := NB372_373.out; have hnc7 := NB373_372.out; have hcz8_0 := ce BK372 0; have hcz8_1 := ce BK372 1; have hcz8_2 := ce BK372 2; have hfz8_0 := fz BK372 0; have hfz8_1 := fz BK372 1; have hfz8_2 := fz BK372 2) | ((with_reducible refine gate_callee (f := 18) rfl ?_); refine gl (some 15) Try.func18 #[.agg #[.int .u64 a0_0, .int .u64 a0_1, .slice A0_2 l0_2.length c0_2], .string a1] ?_; (with_reducible refine (r12_Find.calls k a0_0 a0_1 _ _ l0_2 a1 t374 _ ?side1 ?side2 A3.out).mono ?_); (case side1 => repeat (first | exact (Kd.V_reads' HO0_2.out).2.2 | (with_reducible refine Kd.C_alloc ?_ _) | (with_reducible refine Kd.C_drewN ?_ _) | (with_reducible refine Kd.C_drew ?_))); (case side2 => exact (Kd.V_reads' HO0_2.out).2.1); rintro e w9 ⟨rfl, hb⟩; refine ⟨_, rfl, ?_⟩; replace HO0_2 := am (Kd.V_below (pv HO0_2.out) hb); replace BK372 := am (blk_below (pk BK372.out) hb); replace BK373 := am (blk_below (pk BK373.out) hb); replace HB := am (below_step (pb HB) hb); (try clear hb); (try clear hb2); (try clear hk); (try clear hi); have hcz10_0 := ce BK372 0; have hcz10_1 := ce BK372 1; have hcz10_2 := ce BK372 2; have hfz10_0 := fz BK372 0; have hfz10_1 := fz BK372 1; have hfz10_2 := fz BK372 2; have hcz11_0 := ce BK373 0; have hcz11_1 := ce BK373 1; have hcz11_2 := ce BK373 2; have hfz11_0 := fz BK373 0; have hfz11_1 := fz BK373 1; have hfz11_2 := fz BK373 2))
  refine bodyPost_ret (results_ct rfl _ _ gb373 30 #[.int .u64 a0_0, .int .u64 a0_1, .slice A0_2 l0_2.length c0_2] (0, 0) _ rfl (by refine pk ?_; refine blk_put (cs := #[.int .u64 a0_0, .int .u64 a0_1, .slice none 0 0]) ?_ 2 _ rfl; refine pk ?_; refine blk_put (cs := #[.int .u64 a0_0, .int .u64 0, .slice none 0 0]) ?_ 1 _ rfl; refine pk ?_; refine blk_put (cs := #[.int .u64 0, .int .u64 0, .slice none 0 0]) ?_ 0 _ rfl; refine pk ?_; exact BK373.out) Try.underlying30 rfl (by kernel_rfl)) rfl ?_
  exact ⟨_, by first | rfl | (simp [errW_none, errW_some] <;> rfl) | (simp [*, errW_none, errW_some] <;> rfl), by refine pv ?_; exact Kd.V_mono (Kd.V_far (p := ⟨gb373, 2, none⟩) (Kd.V_far (p := ⟨gb373, 1, none⟩) (Kd.V_far (p := ⟨gb373, 0, none⟩) (Kd.V_mono HO0_2.out (fun k_ hk => (⟨hk, hk.2⟩ : _ ∧ k_ ≠ gb373))) (fun _ hk => hk.2) (.int .u64 a0_0)) (fun _ hk => hk.2) (.int .u64 a0_1)) (fun _ hk => hk.2) (.slice A0_2 l0_2.length c0_2)) (fun _ hk => hk.1.1.1), pb HB⟩
 rw [if_neg c4] at H
 have c4b0 : decide (t374 < 0) = false := decide_eq_false c4
 clear c4
 replace H := Option.bind_eq_some_iff.mp H
 obtain ⟨⟨t375, t376, t377⟩, A120, H⟩ := H
 replace H : (if (l0_2.length : Int) = 0 then (none) else (r12_Delete.l0 k t374 (l0_2.length : Int) (Int.tmod (wrap64 (t374 + 1)) (l0_2.length : Int)) t375 t376 t377)) = some (r1, r2, r3, r4) := H
 have A12 := am A120
 clear A120
 by_cases c13 : (l0_2.length : Int) = 0
 ·rw [if_pos c13] at H
  exact absurd H (by simp)
 rw [if_neg c13] at H
 have c13b0 : ((l0_2.length : Int) == 0) = false := beq_eq_false_iff_ne.mpr c13
 have c13b1 : ((l0_2.length : Int) != 0) = true := bne_iff_ne.mpr c13
 have c13b2 : ¬ (l0_2 = []) := fun h_ => c13 (by rw [h_]; rfl)
 have H' := am H
 clear H
 go_enter Try.func21, Try.ntmps21
 go_wp2_with (first | ((with_reducible refine gate_dst (N := 2) rfl ?_); refine be 2 #[.int .u64 a0_0, .int .u64 a0_1, .slice A0_2 l0_2.length c0_2] 30 ?_; intro gb372 hg w14 hbox hb; have n0_ := am (Kd.V_below (Kd.V_elderB (pv HO0_2.out) gb372 (Nat.le_of_eq hg.symm)) hb); have n1_ := am (below_step (pb HB) hb); have n2_ := am (hbox); have n3_ := am ((pg hg HB : w.heap.size ≤ gb372)); have n4_ := am ((pg hg HB : w.heap.size ≤ gb372)); clear HO0_2; clear HB; have HO0_2 := n0_; have HB := n1_; have BK372 := n2_; have GW372 := n3_; have GE372 := n4_; clear n0_ n1_ n2_ n3_ n4_; clear hb hbox hg) | ((with_reducible refine gate_dst (N := 4) rfl ?_); refine be 4 #[.int .u64 0, .int .u64 0, .slice none 0 0] 30 ?_; intro gb373 hg w15 hbox hb; have n0_ := am (Kd.V_below (Kd.V_elderB (pv HO0_2.out) gb373 (Nat.le_of_eq hg.symm)) hb); have n1_ := am (blk_below (pk BK372.out) hb); have n2_ := am (below_step (pb HB) hb); have n3_ := am (hbox); have n4_ := am ((pg hg HB : w.heap.size ≤ gb373)); have n5_ := am ((pg hg HB : w.heap.size ≤ gb373)); have n6_ := am ((pl hg (pk BK372.out) : gb372 ≠ gb373)); have n7_ := am ((pl' hg (pk BK372.out) : gb373 ≠ gb372)); clear HO0_2; clear BK372; clear HB; have HO0_2 := n0_; have BK372 := n1_; have HB := n2_; have BK373 := n3_; have GW373 := n4_; have GE373 := n5_; have NB372_373 := n6_; have NB373_372 := n7_; clear n0_ n1_ n2_ n3_ n4_ n5_ n6_ n7_; clear hb hbox hg; have hnb16 := NB372_373.out; have hnc16 := NB373_372.out; have hcz17_0 := ce BK372 0; have hcz17_1 := ce BK372 1; have hcz17_2 := ce BK372 2; have hfz17_0 := fz BK372 0; have hfz17_1 := fz BK372 1; have hfz17_2 := fz BK372 2) | ((with_reducible refine gate_callee (f := 18) rfl ?_); refine gl (some 15) Try.func18 #[.agg #[.int .u64 a0_0, .int .u64 a0_1, .slice A0_2 l0_2.length c0_2], .string a1] ?_; (with_reducible refine (r12_Find.calls k a0_0 a0_1 _ _ l0_2 a1 t374 _ ?side1 ?side2 A3.out).mono ?_); (case side1 => repeat (first | exact (Kd.V_reads' HO0_2.out).2.2 | (with_reducible refine Kd.C_alloc ?_ _) | (with_reducible refine Kd.C_drewN ?_ _) | (with_reducible refine Kd.C_drew ?_))); (case side2 => exact (Kd.V_reads' HO0_2.out).2.1); rintro e w18 ⟨rfl, hb⟩; refine ⟨_, rfl, ?_⟩; replace HO0_2 := am (Kd.V_below (pv HO0_2.out) hb); replace BK372 := am (blk_below (pk BK372.out) hb); replace BK373 := am (blk_below (pk BK373.out) hb); replace HB := am (below_step (pb HB) hb); (try clear hb); (try clear hb2); (try clear hk); (try clear hi); have hcz19_0 := ce BK372 0; have hcz19_1 := ce BK372 1; have hcz19_2 := ce BK372 2; have hfz19_0 := fz BK372 0; have hfz19_1 := fz BK372 1; have hfz19_2 := fz BK372 2) | ((with_reducible refine gate_callee (f := 34) rfl ?_); refine gl (some 25) Try.func34 #[.agg #[.int .u64 a0_0, .int .u64 a0_1, .slice A0_2 l0_2.length c0_2], .int .i64 t374, .agg #[.bool false, .string (⟨#[]⟩ : ByteArray), .int .i64 0]] ?_; (with_reducible refine (r12_set.calls a0_0 a0_1 _ _ l0_2 t374 false (⟨#[]⟩ : ByteArray) 0 t375 t376 t377 _ ?side1 ?side2 A12.out).mono ?_); (case side1 => repeat (first | exact (Kd.V_reads' HO0_2.out).2.2 | (with_reducible refine Kd.C_alloc ?_ _) | (with_reducible refine Kd.C_drewN ?_ _) | (with_reducible refine Kd.C_drew ?_))); (case side2 => exact (Kd.V_reads' HO0_2.out).2.1); rintro e w20 ⟨v378, rfl, ho0, hb⟩; refine ⟨_, rfl, ?_⟩; replace HO0_2 := am (Kd.V_elder' (pv HO0_2.out) (Kd.R_base ho0) hb); have HO379 := am (Kd.R_lower (Kd.R_newM (M := fun k_ => (w.heap.size ≤ k_)) ho0 (below_size (pb HB)) (fun k_ h_ => h_)) (below_size (pb HB))); replace BK372 := am (blk_below (pk BK372.out) hb); replace BK373 := am (blk_below (pk BK373.out) hb); replace HB := am (below_step (pb HB) hb); (try clear hb); (try clear hb2); (try clear hk); (try clear hi); (try clear ho0)) | ((with_reducible refine gate_dst (N := 8) rfl ?_); refine be 8 #[.int .u64 0, .int .u64 0, .slice none 0 0] 30 ?_; intro gb380 hg w21 hbox hb; have n0_ := am (Kd.V_below (Kd.V_elderB (pv HO0_2.out) gb380 (Nat.le_of_eq hg.symm)) hb); have n1_ := am (Kd.R_below (pr HO379.out) hb); have n2_ := am (blk_below (pk BK372.out) hb); have n3_ := am (blk_below (pk BK373.out) hb); have n4_ := am (below_step (pb HB) hb); have n5_ := am (hbox); have n6_ := am ((pg hg HB : w.heap.size ≤ gb380)); have n7_ := am ((pg hg HB : w.heap.size ≤ gb380)); have n8_ := am ((pl hg (pk BK372.out) : gb372 ≠ gb380)); have n9_ := am ((pl' hg (pk BK372.out) : gb380 ≠ gb372)); have n10_ := am ((pl hg (pk BK373.out) : gb373 ≠ gb380)); have n11_ := am ((pl' hg (pk BK373.out) : gb380 ≠ gb373)); clear HO0_2; clear HO379; clear BK372; clear BK373; clear HB; have HO0_2 := n0_; have HO379 := n1_; have BK372 := n2_; have BK373 := n3_; have HB := n4_; have BK380 := n5_; have GW380 := n6_; have GE380 := n7_; have NB372_380 := n8_; have NB380_372 := n9_; have NB373_380 := n10_; have NB380_373 := n11_; clear n0_ n1_ n2_ n3_ n4_ n5_ n6_ n7_ n8_ n9_ n10_ n11_; clear hb hbox hg; have hnb22 := NB380_372.out; have hnc22 := NB372_380.out; have hnb23 := NB380_373.out; have hnc23 := NB373_380.out; have hcz24_0 := ce BK380 0; have hcz24_1 := ce BK380 1; have hcz24_2 := ce BK380 2; have hfz24_0 := fz BK380 0; have hfz24_1 := fz BK380 1; have hfz24_2 := fz BK380 2; obtain ⟨Ao25, co25, eo25⟩ := Kd.R_slice HO379.out; subst eo25))
 go_loopg [6, 9] k (fun kq v6 v9 w' => ∃ (x6_1 : Int) (x9_1 : Int) (x381000_1 : Int) (x381001_1 : Int) (x381002_1 : List (S46)) (u381002 : Value), v6 = .int .i64 x6_1 ∧ v9 = .int .i64 x9_1 ∧ Aside0 (r12_Delete.l0 kq x6_1 (l0_2.length : Int) x9_1 x381000_1 x381001_1 x381002_1 = some (r1, r2, r3, r4)) ∧ Aside0 (kq ≤ k) ∧ Aside0 (Kd.V k46 46 w' w.heap.size (fun k_ => (P0_2_ k_ ∨ w.heap.size ≤ k_) ∧ some k_ ≠ (u381002 : Value).ownBlock ∧ k_ ≠ gb372 ∧ k_ ≠ gb373 ∧ k_ ≠ gb380) (.slice A0_2 l0_2.length c0_2) l0_2) ∧ Aside0 (Kd.R k46 46 w' w.heap.size (fun k_ => (w.heap.size ≤ k_)) u381002 x381002_1) ∧ Aside0 (w'.heap[gb372]? = some (.cells #[.int .u64 a0_0, .int .u64 a0_1, (.slice A0_2 l0_2.length c0_2)] 30 (0, 0))) ∧ Aside0 (w'.heap[gb373]? = some (.cells #[.int .u64 0, .int .u64 0, (.slice none 0 0)] 30 (0, 0))) ∧ Aside0 (w'.heap[gb380]? = some (.cells #[.int .u64 x381000_1, .int .u64 x381001_1, u381002] 30 (0, 0))) ∧ Aside0 (Below w.heap.size w w'))
 case atStart => exact ⟨(t374), (Int.tmod (wrap64 (t374 + 1)) (l0_2.length : Int)), (t375), (t376), (t377), (.slice Ao25 t377.length co25), (by first | rfl | (simp; done) | (simp [*]; done)), (by first | rfl | (simp; done) | (simp [*]; done)), H', ⟨Nat.le_refl _⟩, ⟨by refine pv ?_; exact Kd.V_mono (Kd.V_far (p := ⟨gb380, 2, none⟩) (Kd.V_far (p := ⟨gb380, 1, none⟩) (Kd.V_far (p := ⟨gb380, 0, none⟩) (Kd.V_mono HO0_2.out (fun k_ hk => (⟨hk, hk.2⟩ : _ ∧ k_ ≠ gb380))) (fun _ hk => hk.2) (.int .u64 t375)) (fun _ hk => hk.2) (.int .u64 t376)) (fun _ hk => hk.2) (.slice Ao25 t377.length co25)) (fun _ hk => ⟨hk.1.1.1.1.1, ⟨hk.1.1.2, ⟨hk.1.1.1.1.2, ⟨hk.1.1.1.2, hk.1.2⟩⟩⟩⟩)⟩, ⟨by refine pr ?_; exact Kd.R_mono (Kd.R_far (p := ⟨gb380, 2, none⟩) (Kd.R_far (p := ⟨gb380, 1, none⟩) (Kd.R_far (p := ⟨gb380, 0, none⟩) (Kd.R_types HO379.out BK380.out (by decide)) (fun _ hk => hk.2) (.int .u64 t375)) (fun _ hk => hk.2) (.int .u64 t376)) (fun _ hk => hk.2) (.slice Ao25 t377.length co25)) (fun _ hk => hk.1.1)⟩, ⟨by refine pk ?_; refine blk_far ?_ NB372_380.out _; refine pk ?_; refine blk_far ?_ NB372_380.out _; refine pk ?_; refine blk_far ?_ NB372_380.out _; refine pk ?_; exact BK372.out⟩, ⟨by refine pk ?_; refine blk_far ?_ NB373_380.out _; refine pk ?_; refine blk_far ?_ NB373_380.out _; refine pk ?_; refine blk_far ?_ NB373_380.out _; refine pk ?_; exact BK373.out⟩, ⟨by refine pk ?_; refine blk_put (cs := #[.int .u64 t375, .int .u64 t376, .slice none 0 0]) ?_ 2 _ rfl; refine pk ?_; refine blk_put (cs := #[.int .u64 t375, .int .u64 0, .slice none 0 0]) ?_ 1 _ rfl; refine pk ?_; refine blk_put (cs := #[.int .u64 0, .int .u64 0, .slice none 0 0]) ?_ 0 _ rfl; refine pk ?_; exact BK380.out⟩, ⟨pb HB⟩⟩
 case round =>
  clear H'
  try clear c1
  try clear c2
  try clear p2
  try clear c3
  try clear c4
  try clear c4b0
  try clear p6
  try clear c7
  try clear c13
  try clear c13b0
  try clear c13b1
  try clear c13b2
  try clear c16
  try clear c18
  try clear c21
  try clear c22
  try clear c23
  try clear hcz10_0 hcz10_1 hcz10_2
  try clear hcz11_0 hcz11_1 hcz11_2
  try clear hcz17_0 hcz17_1 hcz17_2
  try clear hcz19_0 hcz19_1 hcz19_2
  try clear hcz24_0 hcz24_1 hcz24_2
  try clear hcz8_0 hcz8_1 hcz8_2
  try clear hfz10_0 hfz10_1 hfz10_2
  try clear hfz11_0 hfz11_1 hfz11_2
  try clear hfz17_0 hfz17_1 hfz17_2
  try clear hfz19_0 hfz19_1 hfz19_2
  try clear hfz24_0 hfz24_1 hfz24_2
  try clear hfz8_0 hfz8_1 hfz8_2
  obtain ⟨x6_1, x9_1, x381000_1, x381001_1, x381002_1, u381002, rfl, rfl, HA, HK1, HO_373002, HO_381002, BK372, BK373, BK380, HB⟩ := hrel
  cases gk with
  | zero => exact absurd HA.out (by simp [r12_Delete.l0])
  | succ k1 =>
   have H := HA.out
   clear HA
   simp only [r12_Delete.l0] at H
   by_cases c26 : 0 ≤ x9_1
   ·rw [if_pos c26] at H
    have c26b0 : decide (0 ≤ x9_1) = true := decide_eq_true c26
    clear c26
    by_cases c27 : x9_1 < (x381002_1.length : Int)
    ·rw [if_pos c27] at H
     have c27b0 : decide (x9_1 < (x381002_1.length : Int)) = true := decide_eq_true c27
     clear c27
     obtain ⟨bq28, hbq28⟩ : ∃ b_ : Bool, b_ = ((rd_T46 x381002_1 x9_1).f0) := ⟨_, rfl⟩
     replace H : (if bq28 = true then ((r12_Home.f k1 x381000_1 x381001_1 x381002_1 ((rd_T46 x381002_1 x9_1).f1)).bind fun t383 => (r12_Delete.l1 k1 x6_1 (l0_2.length : Int) x9_1 false t383 x381000_1 x381001_1 x381002_1)) else (some (x381000_1, x381001_1, x381002_1, 0))) = some (r1, r2, r3, r4) := by rw [← hbq28] at H; exact H
     have Nbq28 := am hbq28
     clear hbq28
     by_cases c29 : bq28 = true
     ·subst c29
      have H1 : ((r12_Home.f k1 x381000_1 x381001_1 x381002_1 ((rd_T46 x381002_1 x9_1).f1)).bind fun t383 => (r12_Delete.l1 k1 x6_1 (l0_2.length : Int) x9_1 false t383 x381000_1 x381001_1 x381002_1)) = some (r1, r2, r3, r4) := by rw [if_pos rfl] at H; exact H
      clear H
      have H := H1
      clear H1
      replace H := Option.bind_eq_some_iff.mp H
      obtain ⟨t383, A300, H⟩ := H
      replace H : (r12_Delete.l1 k1 x6_1 (l0_2.length : Int) x9_1 false t383 x381000_1 x381001_1 x381002_1) = some (r1, r2, r3, r4) := H
      have A30 := am A300
      clear A300
      have HC31 := am H
      clear H
      have hnb32 := NB380_372.out
      have hnc32 := NB372_380.out
      have hnb33 := NB380_373.out
      have hnc33 := NB373_380.out
      have hcz34_0 := ce BK380 0
      have hcz34_1 := ce BK380 1
      have hcz34_2 := ce BK380 2
      have hfz34_0 := fz BK380 0
      have hfz34_1 := fz BK380 1
      have hfz34_2 := fz BK380 2
      obtain ⟨Ao35, co35, eo35⟩ := Kd.R_slice HO_381002.out
      subst eo35
      have p381 : 0 ≤ (x9_1 : Int) := of_decide_eq_true (by first | (with_reducible assumption) | assumption)
      have q381 : x9_1 < (x381002_1.length : Int) := of_decide_eq_true (by first | (with_reducible assumption) | assumption)
      obtain ⟨ad381, e381, hx381_0, hx381_1, hx381_2⟩ := at_T46 (Kd.R_reads' HO_381002.out).2.2 x9_1 p381 q381
      (try rw [← Nbq28.out] at hx381_0)
      cases e381
      replace p381 := eq_true p381
      replace q381 := eq_true q381
      try go_wp2
      replace HO_373002 := am (Kd.V_drew HO_373002.out)
      replace HO_381002 := am (Kd.R_drew HO_381002.out)
      replace BK372 := am (blk_drew BK372.out)
      replace BK373 := am (blk_drew BK373.out)
      replace BK380 := am (blk_drew BK380.out)
      replace HB := am (below_drew1 HB.out)
      have p382 : 0 ≤ (x9_1 : Int) := of_decide_eq_true (by first | (with_reducible assumption) | assumption)
      have q382 : x9_1 < (x381002_1.length : Int) := of_decide_eq_true (by first | (with_reducible assumption) | assumption)
      obtain ⟨ad382, e382, hx382_0, hx382_1, hx382_2⟩ := at_T46 (Kd.R_reads' HO_381002.out).2.2 x9_1 p382 q382
      (try rw [← Nbq28.out] at hx382_0)
      obtain rfl : ad381 = ad382 := (by injection e382)
      replace p382 := eq_true p382
      replace q382 := eq_true q382
      refine start_ (n := 9) (S := fun w' => w'.cell? ⟨gb380, 0, none⟩ = some (.int .u64 x381000_1) ∧ w'.cell? ⟨gb380, 1, none⟩ = some (.int .u64 x381001_1) ∧ w'.cell? ⟨gb380, 2, none⟩ = some (.slice (some ad381) x381002_1.length co35) ∧ w'.cell? (ad381.add ((x9_1).toNat * 3)) = some (.bool (true)) ∧ w'.cell? ⟨(ad381.add ((x9_1).toNat * 3)).block, (ad381.add ((x9_1).toNat * 3)).off + 1, none⟩ = some (.string ((rd_T46 x381002_1 x9_1).f1)) ∧ w'.cell? ⟨(ad381.add ((x9_1).toNat * 3)).block, (ad381.add ((x9_1).toNat * 3)).off + 2, none⟩ = some (.int .i64 ((rd_T46 x381002_1 x9_1).f2))) (ds := []) #[false, false, false, false, false, false, false, false, false] (by kernel_rfl) rfl rfl ⟨ce BK380 0, ce BK380 1, ce BK380 2, hx382_0, hx382_1, hx382_2⟩ (fun hHeld => ?_); refine with_tabW r12_Delete.tab10 r12_Delete.bits10 (fun HT_ HW_ => ?_)
      generalize wr.drew = w36 at HO_373002 HO_381002 BK372 BK373 BK380 HB hx382_0 hx382_1 hx382_2 hHeld ⊢
      refine pu 1 ?_
      refine pu 3 ?_
      refine ta 0 hHeld ?_
      refine ta 2 hHeld ?_
      refine pu 4 ?_
      refine pu 5 ?_
      refine ta 6 hHeld ?_
      refine on1 7 (fun K hK => ?_)
      refine gs Try.func24 #[.agg #[.int .u64 x381000_1, .int .u64 x381001_1, .slice (some ad381) x381002_1.length co35], .string ((rd_T46 x381002_1 x9_1).f1)] ?_
      with_reducible refine (r12_Home.calls k1 x381000_1 x381001_1 _ _ x381002_1 ((rd_T46 x381002_1 x9_1).f1) t383 _ ?side1 ?side2 A30.out).mono ?_
      (case side1 => repeat (first | exact (Kd.R_reads' HO_381002.out).2.2 | (with_reducible refine Kd.C_alloc ?_ _) | (with_reducible refine Kd.C_drewN ?_ _) | (with_reducible refine Kd.C_drew ?_)))
      (case side2 => exact (Kd.R_reads' HO_381002.out).2.1)
      rintro e w37 ⟨rfl, hb⟩
      have HS3_ := (hb.cell (World.block_lt_of_cell? _ _ (hHeld.2.2.2.1))).trans (hHeld.2.2.2.1)
      have HS4_ := (hb.cell (World.block_lt_of_cell? _ _ (hHeld.2.2.2.2.1))).trans (hHeld.2.2.2.2.1)
      have HS5_ := (hb.cell (World.block_lt_of_cell? _ _ (hHeld.2.2.2.2.2))).trans (hHeld.2.2.2.2.2)
      refine ⟨_, rfl, ?_⟩
      replace HO_373002 := am (Kd.V_below (pv HO_373002.out) hb)
      replace HO_381002 := am (Kd.R_below (pr HO_381002.out) hb)
      replace BK372 := am (blk_below (pk BK372.out) hb)
      replace BK373 := am (blk_below (pk BK373.out) hb)
      replace BK380 := am (blk_below (pk BK380.out) hb)
      replace HB := am (below_step (pb HB) hb)
      (try clear hb)
      (try clear hb2)
      (try clear hk)
      (try clear hi)
      refine hK.out _ _ ⟨ce BK380 0, ce BK380 1, ce BK380 2, HS3_, HS4_, HS5_⟩ (fun hHeld => ?_)
      clear hK K
      refine nm ?_
      refine pu 8 ?_
      refine done_ (done_of HT_.out (by kernel_rfl)) ?_
      go_upto_block 2 with (fail)
      go_cut [10] (fun v10 wc => ∃ (kq : Nat) (x10_30 : Bool), v10 = .bool x10_30 ∧ Aside0 (r12_Delete.j2 kq x6_1 (l0_2.length : Int) x9_1 x10_30 x381000_1 x381001_1 x381002_1 = some (r1, r2, r3, r4)) ∧ Aside0 (kq ≤ k1) ∧ Aside0 (Kd.V k46 46 wc w.heap.size (fun k_ => (P0_2_ k_ ∨ w.heap.size ≤ k_) ∧ some k_ ≠ ((.slice (some ad381) x381002_1.length co35) : Value).ownBlock ∧ k_ ≠ gb372 ∧ k_ ≠ gb373 ∧ k_ ≠ gb380) (.slice A0_2 l0_2.length c0_2) l0_2) ∧ Aside0 (Kd.R k46 46 wc w.heap.size (fun k_ => (w.heap.size ≤ k_)) (.slice (some ad381) x381002_1.length co35) x381002_1) ∧ Aside0 (wc.heap[gb372]? = some (.cells #[.int .u64 a0_0, .int .u64 a0_1, (.slice A0_2 l0_2.length c0_2)] 30 (0, 0))) ∧ Aside0 (wc.heap[gb373]? = some (.cells #[.int .u64 0, .int .u64 0, (.slice none 0 0)] 30 (0, 0))) ∧ Aside0 (wc.heap[gb380]? = some (.cells #[.int .u64 x381000_1, .int .u64 x381001_1, (.slice (some ad381) x381002_1.length co35)] 30 (0, 0))) ∧ Aside0 (Below w.heap.size w wc))
      case first =>
       have H := HC31.out
       clear HC31
       have H' := am H
       clear H
       go_wp2
       go_loopg [10, 11] k1 (fun kq v10 v11 w' => ∃ (x10_2 : Bool) (x11_2 : Int), v10 = .bool x10_2 ∧ v11 = .int .i64 x11_2 ∧ Aside0 (r12_Delete.l1 kq x6_1 (l0_2.length : Int) x9_1 x10_2 x11_2 x381000_1 x381001_1 x381002_1 = some (r1, r2, r3, r4)) ∧ Aside0 (kq ≤ k1) ∧ Aside0 (Kd.V k46 46 w' w.heap.size (fun k_ => (P0_2_ k_ ∨ w.heap.size ≤ k_) ∧ some k_ ≠ ((.slice (some ad381) x381002_1.length co35) : Value).ownBlock ∧ k_ ≠ gb372 ∧ k_ ≠ gb373 ∧ k_ ≠ gb380) (.slice A0_2 l0_2.length c0_2) l0_2) ∧ Aside0 (Kd.R k46 46 w' w.heap.size (fun k_ => (w.heap.size ≤ k_)) (.slice (some ad381) x381002_1.length co35) x381002_1) ∧ Aside0 (w'.heap[gb372]? = some (.cells #[.int .u64 a0_0, .int .u64 a0_1, (.slice A0_2 l0_2.length c0_2)] 30 (0, 0))) ∧ Aside0 (w'.heap[gb373]? = some (.cells #[.int .u64 0, .int .u64 0, (.slice none 0 0)] 30 (0, 0))) ∧ Aside0 (w'.heap[gb380]? = some (.cells #[.int .u64 x381000_1, .int .u64 x381001_1, (.slice (some ad381) x381002_1.length co35)] 30 (0, 0))) ∧ Aside0 (Below w.heap.size w w'))
       case atStart => exact ⟨(false), (t383), (by first | rfl | (simp; done) | (simp [*]; done)), (by first | rfl | (simp; done) | (simp [*]; done)), H', ⟨Nat.le_refl _⟩, ⟨pv HO_373002.out⟩, ⟨pr HO_381002.out⟩, ⟨pk BK372.out⟩, ⟨pk BK373.out⟩, ⟨pk BK380.out⟩, ⟨pb HB⟩⟩
       case round =>
        clear H'
        try clear c1
        try clear c2
        try clear p2
        try clear q2
        try clear c3
        try clear p3
        try clear q3
        try clear hx3
        try clear c4
        try clear c4b0
        try clear p6
        try clear c7
        try clear c13
        try clear c13b0
        try clear c13b1
        try clear c13b2
        try clear c16
        try clear c18
        try clear c21
        try clear c22
        try clear c23
        try clear c24
        try clear c26
        try clear c26b0
        try clear c27
        try clear c27b0
        try clear q28
        try clear c29
        try clear c32
        try clear c33
        try clear c34
        try clear hcz10_0 hcz10_1 hcz10_2
        try clear hcz11_0 hcz11_1 hcz11_2
        try clear hcz17_0 hcz17_1 hcz17_2
        try clear hcz19_0 hcz19_1 hcz19_2
        try clear hcz24_0 hcz24_1 hcz24_2
        try clear hcz34_0 hcz34_1 hcz34_2
        try clear hcz8_0 hcz8_1 hcz8_2
        try clear hfz10_0 hfz10_1 hfz10_2
        try clear hfz11_0 hfz11_1 hfz11_2
        try clear hfz17_0 hfz17_1 hfz17_2
        try clear hfz19_0 hfz19_1 hfz19_2
        try clear hfz24_0 hfz24_1 hfz24_2
        try clear hfz34_0 hfz34_1 hfz34_2
        try clear hfz8_0 hfz8_1 hfz8_2
        try clear hx381_0
        try clear hx381_1
        try clear hx381_2
        try clear hx382_0
        try clear hx382_1
        try clear hx382_2
        try clear p2
        try clear p381
        try clear p382
        try clear p6
        try clear q381
        try clear q382
        obtain ⟨x10_2, x11_2, rfl, rfl, HA, HK2, HO_373002, HO_381002, BK372, BK373, BK380, HB⟩ := hrel
        cases gk with
        | zero => exact absurd HA.out (by simp [r12_Delete.l1])
        | succ k2 =>
         have H := HA.out
         clear HA
         simp only [r12_Delete.l1] at H
         by_cases c38 : x10_2 = true
         ·subst c38
          have H1 : (if x11_2 = x9_1 then (r12_Delete.j2 k2 x6_1 (l0_2.length : Int) x9_1 true x381000_1 x381001_1 x381002_1) else (if (l0_2.length : Int) = 0 then (none) else (r12_Delete.l1 k2 x6_1 (l0_2.length : Int) x9_1 true (Int.tmod (wrap64 (x11_2 + 1)) (l0_2.length : Int)) x381000_1 x381001_1 x381002_1))) = some (r1, r2, r3, r4) := by rw [if_pos rfl] at H; exact H
          clear H
          have H := H1
          clear H1
          by_cases c39 : x11_2 = x9_1
          ·rw [if_pos c39] at H
           have c39b0 : (x11_2 == x9_1) = true := beq_iff_eq.mpr c39
           have c39b1 : (x11_2 != x9_1) = false := bne_eq_false_iff_eq.mpr c39
           clear c39
           (first | rw [c39b0] | (simp only [i64_w, i32_w]; rw [c39b0]) | skip)
           have H' := am H
           clear H
           go_wp2
           go_meet
           case rel => exact ⟨_, (true), (by first | rfl | (simp; done) | (simp [*]; done)), H', ⟨by have := HK1.out; have := HK2.out; first | omega | exact Nat.le_refl _⟩, ⟨pv HO_373002.out⟩, ⟨pr HO_381002.out⟩, ⟨pk BK372.out⟩, ⟨pk BK373.out⟩, ⟨pk BK380.out⟩, ⟨pb HB⟩⟩
          ·rw [if_neg c39] at H
           have c39b0 : (x11_2 == x9_1) = false := beq_eq_false_iff_ne.mpr c39
           have c39b1 : (x11_2 != x9_1) = true := bne_iff_ne.mpr c39
           (first | rw [c39b0] | (simp only [i64_w, i32_w]; rw [c39b0]) | skip)
           by_cases c40 : (l0_2.length : Int) = 0
           ·rw [if_pos c40] at H
            exact absurd H (by simp)
           ·rw [if_neg c40] at H
            have c40b0 : ((l0_2.length : Int) == 0) = false := beq_eq_false_iff_ne.mpr c40
            have c40b1 : ((l0_2.length : Int) != 0) = true := bne_iff_ne.mpr c40
            have c40b2 : ¬ (l0_2 = []) := fun h_ => c40 (by rw [h_]; rfl)
            have H' := am H
            clear H
            go_wp2
            go_roundg k2
            case measure => have := HK1.out; have := HK2.out; omega
            case rel => exact ⟨(true), (Int.tmod (wrap64 (x11_2 + 1)) (l0_2.length : Int)), (by first | rfl | (simp; done) | (simp [*]; done)), (by first | rfl | (simp; done) | (simp [*]; done)), H', ⟨by have := HK1.out; have := HK2.out; omega⟩, ⟨pv HO_373002.out⟩, ⟨pr HO_381002.out⟩, ⟨pk BK372.out⟩, ⟨pk BK373.out⟩, ⟨pk BK380.out⟩, ⟨pb HB⟩⟩
         ·replace c38 := Bool.eq_false_iff.mpr c38
          subst c38
          have H1 : (if x11_2 = x9_1 then (r12_Delete.j2 k2 x6_1 (l0_2.length : Int) x9_1 (x11_2 == x6_1) x381000_1 x381001_1 x381002_1) else (if (l0_2.length : Int) = 0 then (none) else (r12_Delete.l1 k2 x6_1 (l0_2.length : Int) x9_1 (x11_2 == x6_1) (Int.tmod (wrap64 (x11_2 + 1)) (l0_2.length : Int)) x381000_1 x381001_1 x381002_1))) = some (r1, r2, r3, r4) := by rw [if_neg (show ¬ (false = true) by decide)] at H; exact H
          clear H
          have H := H1
          clear H1
          by_cases c41 : x11_2 = x9_1
          ·rw [if_pos c41] at H
           have c41b0 : (x11_2 == x9_1) = true := beq_iff_eq.mpr c41
           have c41b1 : (x11_2 != x9_1) = false := bne_eq_false_iff_eq.mpr c41
           clear c41
           have H' := am H
           clear H
           go_wp2
           go_meet
           case rel => exact ⟨_, ((x11_2 == x6_1)), (by first | rfl | (simp; done) | (simp [*]; done)), H', ⟨by have := HK1.out; have := HK2.out; first | omega | exact Nat.le_refl _⟩, ⟨pv HO_373002.out⟩, ⟨pr HO_381002.out⟩, ⟨pk BK372.out⟩, ⟨pk BK373.out⟩, ⟨pk BK380.out⟩, ⟨pb HB⟩⟩
          ·rw [if_neg c41] at H
           have c41b0 : (x11_2 == x9_1) = false := beq_eq_false_iff_ne.mpr c41
           have c41b1 : (x11_2 != x9_1) = true := bne_iff_ne.mpr c41
           by_cases c42 : (l0_2.length : Int) = 0
           ·rw [if_pos c42] at H
            exact absurd H (by simp)
           ·rw [if_neg c42] at H
            have c42b0 : ((l0_2.length : Int) == 0) = false := beq_eq_false_iff_ne.mpr c42
            have c42b1 : ((l0_2.length : Int) != 0) = true := bne_iff_ne.mpr c42
            have c42b2 : ¬ (l0_2 = []) := fun h_ => c42 (by rw [h_]; rfl)
            have H' := am H
            clear H
            go_wp2
            go_roundg k2
            case measure => have := HK1.out; have := HK2.out; omega
            case rel => exact ⟨((x11_2 == x6_1)), (Int.tmod (wrap64 (x11_2 + 1)) (l0_2.length : Int)), (by first | rfl | (simp; done) | (simp [*]; done)), (by first | rfl | (simp; done) | (simp [*]; done)), H', ⟨by have := HK1.out; have := HK2.out; omega⟩, ⟨pv HO_373002.out⟩, ⟨pr HO_381002.out⟩, ⟨pk BK372.out⟩, ⟨pk BK373.out⟩, ⟨pk BK380.out⟩, ⟨pb HB⟩⟩
      case rest =>
       clear HC31
       try clear c1
       try clear c2
       try clear p2
       try clear q2
       try clear c3
       try clear p3
       try clear q3
       try clear hx3
       try clear c4
       try clear c4b0
       try clear p6
       try clear c7
       try clear c13
       try clear c13b0
       try clear c13b1
       try clear c13b2
       try clear c16
       try clear c18
       try clear c21
       try clear c22
       try clear c23
       try clear c24
       try clear c26
       try clear c26b0
       try clear c27
       try clear c27b0
       try clear q28
       try clear c29
       try clear c32
       try clear c33
       try clear c34
       try clear c38
       try clear p38
       try clear q38
       try clear hx38
       try clear c39
       try clear c39b0
       try clear c39b1
       try clear c40
       try clear c40b0
       try clear c40b1
       try clear c40b2
       try clear c41
       try clear c41b0
       try clear c41b1
       try clear c42
       try clear c42b0
       try clear c42b1
       try clear c42b2
       try clear hcz10_0 hcz10_1 hcz10_2
       try clear hcz11_0 hcz11_1 hcz11_2
       try clear hcz17_0 hcz17_1 hcz17_2
       try clear hcz19_0 hcz19_1 hcz19_2
       try clear hcz24_0 hcz24_1 hcz24_2
       try clear hcz34_0 hcz34_1 hcz34_2
       try clear hcz8_0 hcz8_1 hcz8_2
       try clear hfz10_0 hfz10_1 hfz10_2
       try clear hfz11_0 hfz11_1 hfz11_2
       try clear hfz17_0 hfz17_1 hfz17_2
       try clear hfz19_0 hfz19_1 hfz19_2
       try clear hfz24_0 hfz24_1 hfz24_2
       try clear hfz34_0 hfz34_1 hfz34_2
       try clear hfz8_0 hfz8_1 hfz8_2
       try clear hx381_0
       try clear hx381_1
       try clear hx381_2
       try clear hx382_0
       try clear hx382_1
       try clear hx382_2
       try clear p2
       try clear p3
       try clear p381
       try clear p382
       try clear p6
       try clear q2
       try clear q28
       try clear q3
       try clear q381
       try clear q382
       obtain ⟨kq, x10_30, rfl, HA, HJ30, HO_373002, HO_381002, BK372, BK373, BK380, HB⟩ := hcut
       cases kq with
       | zero => exact absurd HA.out (by simp [r12_Delete.j2])
       | succ kj30 =>
        have H := HA.out
        clear HA
        simp only [r12_Delete.j2] at H
        by_cases c43 : x10_30 = true
        ·subst c43
         have H1 : (if 0 ≤ x9_1 then (if x9_1 < (x381002_1.length : Int) then ((r12_set.f x381000_1 x381001_1 x381002_1 x6_1 ((rd_T46 x381002_1 x9_1).f0) ((rd_T46 x381002_1 x9_1).f1) ((rd_T46 x381002_1 x9_1).f2)).bind fun bt386 => ((r12_set.f bt386.1 bt386.2.1 bt386.2.2 x9_1 false (⟨#[]⟩ : ByteArray) 0).bind fun bt391 => (if (l0_2.length : Int) = 0 then (none) else (r12_Delete.l0 kj30 x9_1 (l0_2.length : Int) (Int.tmod (wrap64 (x9_1 + 1)) (l0_2.length : Int)) bt391.1 bt391.2.1 bt391.2.2)))) else (none)) else (none)) = some (r1, r2, r3, r4) := by rw [if_pos rfl] at H; exact H
         clear H
         have H := H1
         clear H1
         by_cases c44 : 0 ≤ x9_1
         ·rw [if_pos c44] at H
          have c44b0 : decide (0 ≤ x9_1) = true := decide_eq_true c44
          clear c44
          by_cases c45 : x9_1 < (x381002_1.length : Int)
          ·rw [if_pos c45] at H
           have c45b0 : decide (x9_1 < (x381002_1.length : Int)) = true := decide_eq_true c45
           clear c45
           replace H := Option.bind_eq_some_iff.mp H
           obtain ⟨⟨t386, t387, t388⟩, A460, H⟩ := H
           replace H : ((r12_set.f t386 t387 t388 x9_1 false (⟨#[]⟩ : ByteArray) 0).bind fun bt391 => (if (l0_2.length : Int) = 0 then (none) else (r12_Delete.l0 kj30 x9_1 (l0_2.length : Int) (Int.tmod (wrap64 (x9_1 + 1)) (l0_2.length : Int)) bt391.1 bt391.2.1 bt391.2.2))) = some (r1, r2, r3, r4) := H
           have A46 := am A460
           clear A460
           replace H := Option.bind_eq_some_iff.mp H
           obtain ⟨⟨t391, t392, t393⟩, A470, H⟩ := H
           replace H : (if (l0_2.length : Int) = 0 then (none) else (r12_Delete.l0 kj30 x9_1 (l0_2.length : Int) (Int.tmod (wrap64 (x9_1 + 1)) (l0_2.length : Int)) t391 t392 t393)) = some (r1, r2, r3, r4) := H
           have A47 := am A470
           clear A470
           by_cases c48 : (l0_2.length : Int) = 0
           ·rw [if_pos c48] at H
            exact absurd H (by simp)
           ·rw [if_neg c48] at H
            have c48b0 : ((l0_2.length : Int) == 0) = false := beq_eq_false_iff_ne.mpr c48
            have c48b1 : ((l0_2.length : Int) != 0) = true := bne_iff_ne.mpr c48
            have c48b2 : ¬ (l0_2 = []) := fun h_ => c48 (by rw [h_]; rfl)
            have H' := am H
            clear H
            have hnb49 := NB380_372.out
            have hnc49 := NB372_380.out
            have hnb50 := NB380_373.out
            have hnc50 := NB373_380.out
            have hcz51_0 := ce BK380 0
            have hcz51_1 := ce BK380 1
            have hcz51_2 := ce BK380 2
            have hfz51_0 := fz BK380 0
            have hfz51_1 := fz BK380 1
            have hfz51_2 := fz BK380 2
            have p384 : 0 ≤ (x9_1 : Int) := of_decide_eq_true (by first | (with_reducible assumption) | assumption)
            have q384 : x9_1 < (x381002_1.length : Int) := of_decide_eq_true (by first | (with_reducible assumption) | assumption)
            obtain ⟨ad384, e384, hx384_0, hx384_1, hx384_2⟩ := at_T46 (Kd.R_reads' HO_381002.out).2.2 x9_1 p384 q384
            obtain rfl : ad381 = ad384 := (by injection e384)
            replace p384 := eq_true p384
            replace q384 := eq_true q384
            go_wp2_with (first | ((with_reducible refine gate_dst (N := 12) rfl ?_); refine be 12 #[.bool false, .string (⟨#[]⟩ : ByteArray), .int .i64 0] 46 ?_; intro gb385 hg w52 hbox hb; have n0_ := am (Kd.V_below (Kd.V_elderB (pv HO_373002.out) gb385 (Nat.le_of_eq hg.symm)) hb); have n1_ := am (Kd.R_below (Kd.R_elderB (pr HO_381002.out) gb385 (Nat.le_of_eq hg.symm)) hb); have n2_ := am (blk_below (pk BK372.out) hb); have n3_ := am (blk_below (pk BK373.out) hb); have n4_ := am (blk_below (pk BK380.out) hb); have n5_ := am (below_step (pb HB) hb); have n6_ := am (hbox); have n7_ := am ((pg hg HB : w.heap.size ≤ gb385)); have n8_ := am ((pg hg HB : w.heap.size ≤ gb385)); have n9_ := am ((pl hg (pk BK372.out) : gb372 ≠ gb385)); have n10_ := am ((pl' hg (pk BK372.out) : gb385 ≠ gb372)); have n11_ := am ((pl hg (pk BK373.out) : gb373 ≠ gb385)); have n12_ := am ((pl' hg (pk BK373.out) : gb385 ≠ gb373)); have n13_ := am ((pl hg (pk BK380.out) : gb380 ≠ gb385)); have n14_ := am ((pl' hg (pk BK380.out) : gb385 ≠ gb380)); clear HO_373002; clear HO_381002; clear BK372; clear BK373; clear BK380; clear HB; have HO_373002 := n0_; have HO_381002 := n1_; have BK372 := n2_; have BK373 := n3_; have BK380 := n4_; have HB := n5_; have BK385 := n6_; have GW385 := n7_; have GE385 := n8_; have NB372_385 := n9_; have NB385_372 := n10_; have NB373_385 := n11_; have NB385_373 := n12_; have NB380_385 := n13_; have NB385_380 := n14_; clear n0_ n1_ n2_ n3_ n4_ n5_ n6_ n7_ n8_ n9_ n10_ n11_ n12_ n13_ n14_; clear hb hbox hg; have hnb53 := NB385_372.out; have hnc53 := NB372_385.out; have hnb54 := NB385_373.out; have hnc54 := NB373_385.out; have hnb55 := NB385_380.out; have hnc55 := NB380_385.out; have hcz56_0 := ce BK385 0; have hcz56_1 := ce BK385 1; have hcz56_2 := ce BK385 2; have hfz56_0 := fz BK385 0; have hfz56_1 := fz BK385 1; have hfz56_2 := fz BK385 2; have hcz57_0 := ce BK380 0; have hcz57_1 := ce BK380 1; have hcz57_2 := ce BK380 2; have hfz57_0 := fz BK380 0; have hfz57_1 := fz BK380 1; have hfz57_2 := fz BK380 2) | ((with_reducible refine gate_callee (f := 34) rfl ?_); refine gl (some 70) Try.func34 #[.agg #[.int .u64 x381000_1, .int .u64 x381001_1, .slice (some ad381) x381002_1.length co35], .int .i64 x6_1, .agg #[.bool ((rd_T46 x381002_1 x9_1).f0), .string ((rd_T46 x381002_1 x9_1).f1), .int .i64 ((rd_T46 x381002_1 x9_1).f2)]] ?_; (with_reducible refine (r12_set.calls x381000_1 x381001_1 _ _ x381002_1 x6_1 ((rd_T46 x381002_1 x9_1).f0) ((rd_T46 x381002_1 x9_1).f1) ((rd_T46 x381002_1 x9_1).f2) t386 t387 t388 _ ?side1 ?side2 A46.out).mono ?_); (case side1 => refine (Kd.R_reads' (e := 46) (base := w.heap.size) (ok := fun k_ => ((w.heap.size ≤ k_) ∧ k_ ≠ gb385)) (n := x381002_1.length) (c := co35) ?_).2.2; exact (pr ((Kd.R_mono (Kd.R_far (p := ⟨gb385, 2, none⟩) (Kd.R_far (p := ⟨gb385, 1, none⟩) (Kd.R_far (p := ⟨gb385, 0, none⟩) (Kd.R_mono HO_381002.out (fun k_ hk => (⟨hk, hk.2⟩ : _ ∧ k_ ≠ gb385))) (fun _ hk => hk.2) (.bool ((rd_T46 x381002_1 x9_1).f0))) (fun _ hk => hk.2) (.string ((rd_T46 x381002_1 x9_1).f1))) (fun _ hk => hk.2) (.int .i64 ((rd_T46 x381002_1 x9_1).f2))) (fun _ h_ => h_.1))))); (case side2 => exact (Kd.R_reads' HO_381002.out).2.1); rintro e w58 ⟨v389, rfl, ho0, hb⟩; refine ⟨_, rfl, ?_⟩; have n0_ := am (Kd.V_elder' (pv ((Kd.V_mono (Kd.V_far (p := ⟨gb385, 2, none⟩) (Kd.V_far (p := ⟨gb385, 1, none⟩) (Kd.V_far (p := ⟨gb385, 0, none⟩) (Kd.V_mono HO_373002.out (fun k_ hk => (⟨hk, hk.2⟩ : _ ∧ k_ ≠ gb385))) (fun _ hk => hk.2) (.bool ((rd_T46 x381002_1 x9_1).f0))) (fun _ hk => hk.2) (.string ((rd_T46 x381002_1 x9_1).f1))) (fun _ hk => hk.2) (.int .i64 ((rd_T46 x381002_1 x9_1).f2))) (fun _ h_ => h_.1)))) (Kd.R_base ho0) hb); have n1_ := am (Kd.R_elder' (pr ((Kd.R_mono (Kd.R_far (p := ⟨gb385, 2, none⟩) (Kd.R_far (p := ⟨gb385, 1, none⟩) (Kd.R_far (p := ⟨gb385, 0, none⟩) (Kd.R_mono HO_381002.out (fun k_ hk => (⟨hk, hk.2⟩ : _ ∧ k_ ≠ gb385))) (fun _ hk => hk.2) (.bool ((rd_T46 x381002_1 x9_1).f0))) (fun _ hk => hk.2) (.string ((rd_T46 x381002_1 x9_1).f1))) (fun _ hk => hk.2) (.int .i64 ((rd_T46 x381002_1 x9_1).f2))) (fun _ h_ => h_.1)))) (Kd.R_base ho0) hb); have n2_ := am (Kd.R_lower (Kd.R_newB (Kd.R_new' (Kd.R_newM (M := fun k_ => (w.heap.size ≤ k_)) ho0 (below_size (pb HB)) (fun k_ h_ => h_)) (Kd.R_lt (pr ((Kd.R_mono (Kd.R_far (p := ⟨gb385, 2, none⟩) (Kd.R_far (p := ⟨gb385, 1, none⟩) (Kd.R_far (p := ⟨gb385, 0, none⟩) (Kd.R_mono HO_381002.out (fun k_ hk => (⟨hk, hk.2⟩ : _ ∧ k_ ≠ gb385))) (fun _ hk => hk.2) (.bool ((rd_T46 x381002_1 x9_1).f0))) (fun _ hk => hk.2) (.string ((rd_T46 x381002_1 x9_1).f1))) (fun _ hk => hk.2) (.int .i64 ((rd_T46 x381002_1 x9_1).f2))) (fun _ h_ => h_.1)))))) (g := gb385) (o := .cells #[.bool ((rd_T46 x381002_1 x9_1).f0), .string ((rd_T46 x381002_1 x9_1).f1), .int .i64 ((rd_T46 x381002_1 x9_1).f2)] 46 (0, 0)) (by refine pk ?_; refine blk_put (cs := #[.bool ((rd_T46 x381002_1 x9_1).f0), .string ((rd_T46 x381002_1 x9_1).f1), .int .i64 0]) ?_ 2 _ rfl; refine pk ?_; refine blk_put (cs := #[.bool ((rd_T46 x381002_1 x9_1).f0), .string (⟨#[]⟩ : ByteArray), .int .i64 0]) ?_ 1 _ rfl; refine pk ?_; refine blk_put (cs := #[.bool false, .string (⟨#[]⟩ : ByteArray), .int .i64 0]) ?_ 0 _ rfl; refine pk ?_; exact BK385.out)) (below_size (pb HB))); have n3_ := am (blk_below (g := gb372) (o := .cells #[.int .u64 a0_0, .int .u64 a0_1, .slice A0_2 l0_2.length c0_2] 30 (0, 0)) (by refine pk ?_; refine blk_far ?_ NB372_385.out _; refine pk ?_; refine blk_far ?_ NB372_385.out _; refine pk ?_; refine blk_far ?_ NB372_385.out _; refine pk ?_; exact BK372.out) hb); have n4_ := am (blk_below (g := gb373) (o := .cells #[.int .u64 0, .int .u64 0, .slice none 0 0] 30 (0, 0)) (by refine pk ?_; refine blk_far ?_ NB373_385.out _; refine pk ?_; refine blk_far ?_ NB373_385.out _; refine pk ?_; refine blk_far ?_ NB373_385.out _; refine pk ?_; exact BK373.out) hb); have n5_ := am (blk_below (g := gb380) (o := .cells #[.int .u64 x381000_1, .int .u64 x381001_1, .slice (some ad381) x381002_1.length co35] 30 (0, 0)) (by refine pk ?_; refine blk_far ?_ NB380_385.out _; refine pk ?_; refine blk_far ?_ NB380_385.out _; refine pk ?_; refine blk_far ?_ NB380_385.out _; refine pk ?_; exact BK380.out) hb); have n6_ := am (blk_below (g := gb385) (o := .cells #[.bool ((rd_T46 x381002_1 x9_1).f0), .string ((rd_T46 x381002_1 x9_1).f1), .int .i64 ((rd_T46 x381002_1 x9_1).f2)] 46 (0, 0)) (by refine pk ?_; refine blk_put (cs := #[.bool ((rd_T46 x381002_1 x9_1).f0), .string ((rd_T46 x381002_1 x9_1).f1), .int .i64 0]) ?_ 2 _ rfl; refine pk ?_; refine blk_put (cs := #[.bool ((rd_T46 x381002_1 x9_1).f0), .string (⟨#[]⟩ : ByteArray), .int .i64 0]) ?_ 1 _ rfl; refine pk ?_; refine blk_put (cs := #[.bool false, .string (⟨#[]⟩ : ByteArray), .int .i64 0]) ?_ 0 _ rfl; refine pk ?_; exact BK385.out) hb); have n7_ := am (below_step (pb HB) hb); clear HO_373002; clear HO_381002; clear BK372; clear BK373; clear BK380; clear BK385; clear HB; have HO_373002 := n0_; have HO_381002 := n1_; have HO390 := n2_; have BK372 := n3_; have BK373 := n4_; have BK380 := n5_; have BK385 := n6_; have HB := n7_; clear n0_ n1_ n2_ n3_ n4_ n5_ n6_ n7_; (try clear hb); (try clear hb2); (try clear hk); (try clear hi); (try clear ho0); have hcz59_0 := ce BK380 0; have hcz59_1 := ce BK380 1; have hcz59_2 := ce BK380 2; have hfz59_0 := fz BK380 0; have hfz59_1 := fz BK380 1; have hfz59_2 := fz BK380 2; obtain ⟨Ao60, co60, eo60⟩ := Kd.R_slice HO390.out; subst eo60) | ((with_reducible refine gate_callee (f := 34) rfl ?_); refine gl (some 74) Try.func34 #[.agg #[.int .u64 t386, .int .u64 t387, .slice Ao60 t388.length co60], .int .i64 x9_1, .agg #[.bool false, .string (⟨#[]⟩ : ByteArray), .int .i64 0]] ?_; (with_reducible refine (r12_set.calls t386 t387 _ _ t388 x9_1 false (⟨#[]⟩ : ByteArray) 0 t391 t392 t393 _ ?side1 ?side2 A47.out).mono ?_); (case side1 => refine (Kd.R_reads' (e := 46) (base := w.heap.size) (ok := fun k_ => ((((w.heap.size ≤ k_) ∧ True) ∧ some k_ ≠ (.slice (some ad381) x381002_1.length co35 : Value).ownBlock) ∧ k_ ≠ gb385)) (n := t388.length) (c := co60) ?_).2.2; exact (pr ((Kd.R_mono (Kd.R_far (p := ⟨gb380, 2, none⟩) (Kd.R_far (p := ⟨gb380, 1, none⟩) (Kd.R_far (p := ⟨gb380, 0, none⟩) (Kd.R_types HO390.out BK380.out (by decide)) (fun _ hk => hk.2) (.int .u64 t386)) (fun _ hk => hk.2) (.int .u64 t387)) (fun _ hk => hk.2) (.slice Ao60 t388.length co60)) (fun _ h_ => h_.1))))); (case side2 => exact (Kd.R_reads' HO390.out).2.1); rintro e w61 ⟨v394, rfl, ho0, hb⟩; refine ⟨_, rfl, ?_⟩; have n0_ := am (Kd.V_elder' (pv ((Kd.V_mono (Kd.V_far (p := ⟨gb380, 2, none⟩) (Kd.V_far (p := ⟨gb380, 1, none⟩) (Kd.V_far (p := ⟨gb380, 0, none⟩) (Kd.V_mono HO_373002.out (fun k_ hk => (⟨hk, hk.1.1.2.2.2.2⟩ : _ ∧ k_ ≠ gb380))) (fun _ hk => hk.2) (.int .u64 t386)) (fun _ hk => hk.2) (.int .u64 t387)) (fun _ hk => hk.2) (.slice Ao60 t388.length co60)) (fun _ h_ => h_.1)))) (Kd.R_base ho0) hb); have n1_ := am (Kd.R_elder' (pr ((Kd.R_mono (Kd.R_far (p := ⟨gb380, 2, none⟩) (Kd.R_far (p := ⟨gb380, 1, none⟩) (Kd.R_far (p := ⟨gb380, 0, none⟩) (Kd.R_types HO_381002.out BK380.out (by decide)) (fun _ hk => hk.2) (.int .u64 t386)) (fun _ hk => hk.2) (.int .u64 t387)) (fun _ hk => hk.2) (.slice Ao60 t388.length co60)) (fun _ h_ => h_.1)))) (Kd.R_base ho0) hb); have n2_ := am (Kd.R_elder' (pr ((Kd.R_mono (Kd.R_far (p := ⟨gb380, 2, none⟩) (Kd.R_far (p := ⟨gb380, 1, none⟩) (Kd.R_far (p := ⟨gb380, 0, none⟩) (Kd.R_types HO390.out BK380.out (by decide)) (fun _ hk => hk.2) (.int .u64 t386)) (fun _ hk => hk.2) (.int .u64 t387)) (fun _ hk => hk.2) (.slice Ao60 t388.length co60)) (fun _ h_ => h_.1)))) (Kd.R_base ho0) hb); have n3_ := am (Kd.R_lower (Kd.R_newB (Kd.R_new' (Kd.R_new' (Kd.R_newM (M := fun k_ => (w.heap.size ≤ k_)) ho0 (below_size (pb HB)) (fun k_ h_ => h_)) (Kd.R_lt (pr ((Kd.R_mono (Kd.R_far (p := ⟨gb380, 2, none⟩) (Kd.R_far (p := ⟨gb380, 1, none⟩) (Kd.R_far (p := ⟨gb380, 0, none⟩) (Kd.R_types HO_381002.out BK380.out (by decide)) (fun _ hk => hk.2) (.int .u64 t386)) (fun _ hk => hk.2) (.int .u64 t387)) (fun _ hk => hk.2) (.slice Ao60 t388.length co60)) (fun _ h_ => h_.1)))))) (Kd.R_lt (pr ((Kd.R_mono (Kd.R_far (p := ⟨gb380, 2, none⟩) (Kd.R_far (p := ⟨gb380, 1, none⟩) (Kd.R_far (p := ⟨gb380, 0, none⟩) (Kd.R_types HO390.out BK380.out (by decide)) (fun _ hk => hk.2) (.int .u64 t386)) (fun _ hk => hk.2) (.int .u64 t387)) (fun _ hk => hk.2) (.slice Ao60 t388.length co60)) (fun _ h_ => h_.1)))))) (g := gb385) (o := .cells #[.bool ((rd_T46 x381002_1 x9_1).f0), .string ((rd_T46 x381002_1 x9_1).f1), .int .i64 ((rd_T46 x381002_1 x9_1).f2)] 46 (0, 0)) (by refine pk ?_; refine blk_far ?_ NB385_380.out _; refine pk ?_; refine blk_far ?_ NB385_380.out _; refine pk ?_; refine blk_far ?_ NB385_380.out _; refine pk ?_; exact BK385.out)) (below_size (pb HB))); have n4_ := am (blk_below (g := gb372) (o := .cells #[.int .u64 a0_0, .int .u64 a0_1, .slice A0_2 l0_2.length c0_2] 30 (0, 0)) (by refine pk ?_; refine blk_far ?_ NB372_380.out _; refine pk ?_; refine blk_far ?_ NB372_380.out _; refine pk ?_; refine blk_far ?_ NB372_380.out _; refine pk ?_; exact BK372.out) hb); have n5_ := am (blk_below (g := gb373) (o := .cells #[.int .u64 0, .int .u64 0, .slice none 0 0] 30 (0, 0)) (by refine pk ?_; refine blk_far ?_ NB373_380.out _; refine pk ?_; refine blk_far ?_ NB373_380.out _; refine pk ?_; refine blk_far ?_ NB373_380.out _; refine pk ?_; exact BK373.out) hb); have n6_ := am (blk_below (g := gb380) (o := .cells #[.int .u64 t386, .int .u64 t387, .slice Ao60 t388.length co60] 30 (0, 0)) (by refine pk ?_; refine blk_put (cs := #[.int .u64 t386, .int .u64 t387, .slice (some ad381) x381002_1.length co35]) ?_ 2 _ rfl; refine pk ?_; refine blk_put (cs := #[.int .u64 t386, .int .u64 x381001_1, .slice (some ad381) x381002_1.length co35]) ?_ 1 _ rfl; refine pk ?_; refine blk_put (cs := #[.int .u64 x381000_1, .int .u64 x381001_1, .slice (some ad381) x381002_1.length co35]) ?_ 0 _ rfl; refine pk ?_; exact BK380.out) hb); have n7_ := am (blk_below (g := gb385) (o := .cells #[.bool ((rd_T46 x381002_1 x9_1).f0), .string ((rd_T46 x381002_1 x9_1).f1), .int .i64 ((rd_T46 x381002_1 x9_1).f2)] 46 (0, 0)) (by refine pk ?_; refine blk_far ?_ NB385_380.out _; refine pk ?_; refine blk_far ?_ NB385_380.out _; refine pk ?_; refine blk_far ?_ NB385_380.out _; refine pk ?_; exact BK385.out) hb); have n8_ := am (below_step (pb HB) hb); clear HO_373002; clear HO_381002; clear HO390; clear BK372; clear BK373; clear BK380; clear BK385; clear HB; have HO_373002 := n0_; have HO_381002 := n1_; have HO390 := n2_; have HO395 := n3_; have BK372 := n4_; have BK373 := n5_; have BK380 := n6_; have BK385 := n7_; have HB := n8_; clear n0_ n1_ n2_ n3_ n4_ n5_ n6_ n7_ n8_; (try clear hb); (try clear hb2); (try clear hk); (try clear hi); (try clear ho0); have hcz62_0 := ce BK380 0; have hcz62_1 := ce BK380 1; have hcz62_2 := ce BK380 2; have hfz62_0 := fz BK380 0; have hfz62_1 := fz BK380 1; have hfz62_2 := fz BK380 2; obtain ⟨Ao63, co63, eo63⟩ := Kd.R_slice HO395.out; subst eo63))
            go_roundg kj30
            case measure => have := HK1.out; have := HJ30.out; omega
            case rel => exact ⟨(x9_1), (Int.tmod (wrap64 (x9_1 + 1)) (l0_2.length : Int)), (t391), (t392), (t393), (.slice Ao63 t393.length co63), (by first | rfl | (simp; done) | (simp [*]; done)), (by first | rfl | (simp; done) | (simp [*]; done)), H', ⟨by have := HK1.out; have := HJ30.out; omega⟩, ⟨by refine pv ?_; exact Kd.V_mono (Kd.V_far (p := ⟨gb380, 2, none⟩) (Kd.V_far (p := ⟨gb380, 1, none⟩) (Kd.V_far (p := ⟨gb380, 0, none⟩) (Kd.V_mono HO_373002.out (fun k_ hk => (⟨hk, hk.1.1.1.2.2.2.2⟩ : _ ∧ k_ ≠ gb380))) (fun _ hk => hk.2) (.int .u64 t391)) (fun _ hk => hk.2) (.int .u64 t392)) (fun _ hk => hk.2) (.slice Ao63 t393.length co63)) (fun _ hk => ⟨hk.1.1.1.1.1, ⟨hk.1.2, ⟨hk.1.1.1.1.2.2.1, ⟨hk.1.1.1.1.2.2.2.1, hk.1.1.1.1.2.2.2.2⟩⟩⟩⟩)⟩, ⟨by refine pr ?_; exact Kd.R_mono (Kd.R_far (p := ⟨gb380, 2, none⟩) (Kd.R_far (p := ⟨gb380, 1, none⟩) (Kd.R_far (p := ⟨gb380, 0, none⟩) (Kd.R_types HO395.out BK380.out (by decide)) (fun _ hk => hk.2) (.int .u64 t391)) (fun _ hk => hk.2) (.int .u64 t392)) (fun _ hk => hk.2) (.slice Ao63 t393.length co63)) (fun _ hk => hk.1.1.1.1.1)⟩, ⟨by refine pk ?_; refine blk_far ?_ NB372_380.out _; refine pk ?_; refine blk_far ?_ NB372_380.out _; refine pk ?_; refine blk_far ?_ NB372_380.out _; refine pk ?_; exact BK372.out⟩, ⟨by refine pk ?_; refine blk_far ?_ NB373_380.out _; refine pk ?_; refine blk_far ?_ NB373_380.out _; refine pk ?_; refine blk_far ?_ NB373_380.out _; refine pk ?_; exact BK373.out⟩, ⟨by refine pk ?_; refine blk_put (cs := #[.int .u64 t391, .int .u64 t392, .slice Ao60 t388.length co60]) ?_ 2 _ rfl; refine pk ?_; refine blk_put (cs := #[.int .u64 t391, .int .u64 t387, .slice Ao60 t388.length co60]) ?_ 1 _ rfl; refine pk ?_; refine blk_put (cs := #[.int .u64 t386, .int .u64 t387, .slice Ao60 t388.length co60]) ?_ 0 _ rfl; refine pk ?_; exact BK380.out⟩, ⟨pb HB⟩⟩
          ·rw [if_neg c45] at H
           exact absurd H (by simp)
         ·rw [if_neg c44] at H
          exact absurd H (by simp)
        ·replace c43 := Bool.eq_false_iff.mpr c43
         subst c43
         have H1 : (if (l0_2.length : Int) = 0 then (none) else (r12_Delete.l0 kj30 x6_1 (l0_2.length : Int) (Int.tmod (wrap64 (x9_1 + 1)) (l0_2.length : Int)) x381000_1 x381001_1 x381002_1)) = some (r1, r2, r3, r4) := by rw [if_neg (show ¬ (false = true) by decide)] at H; exact H
         clear H
         have H := H1
         clear H1
         by_cases c64 : (l0_2.length : Int) = 0
         ·rw [if_pos c64] at H
          exact absurd H (by simp)
         ·rw [if_neg c64] at H
          have c64b0 : ((l0_2.length : Int) == 0) = false := beq_eq_false_iff_ne.mpr c64
          have c64b1 : ((l0_2.length : Int) != 0) = true := bne_iff_ne.mpr c64
          have c64b2 : ¬ (l0_2 = []) := fun h_ => c64 (by rw [h_]; rfl)
          have H' := am H
          clear H
          go_wp2
          go_roundg kj30
          case measure => have := HK1.out; have := HJ30.out; omega
          case rel => exact ⟨(x6_1), (Int.tmod (wrap64 (x9_1 + 1)) (l0_2.length : Int)), (x381000_1), (x381001_1), (x381002_1), (.slice (some ad381) x381002_1.length co35), (by first | rfl | (simp; done) | (simp [*]; done)), (by first | rfl | (simp; done) | (simp [*]; done)), H', ⟨by have := HK1.out; have := HJ30.out; omega⟩, ⟨pv HO_373002.out⟩, ⟨pr HO_381002.out⟩, ⟨pk BK372.out⟩, ⟨pk BK373.out⟩, ⟨pk BK380.out⟩, ⟨pb HB⟩⟩
     ·replace c29 := Bool.eq_false_iff.mpr c29
      subst c29
      have H1 : (some (x381000_1, x381001_1, x381002_1, 0)) = some (r1, r2, r3, r4) := by rw [if_neg (show ¬ (false = true) by decide)] at H; exact H
      clear H
      have H := H1
      clear H1
      simp only [Option.some.injEq, Prod.mk.injEq] at H
      obtain ⟨rfl, rfl, rfl, rfl⟩ := H
      have hnb65 := NB380_372.out
      have hnc65 := NB372_380.out
      have hnb66 := NB380_373.out
      have hnc66 := NB373_380.out
      have hcz67_0 := ce BK380 0
      have hcz67_1 := ce BK380 1
      have hcz67_2 := ce BK380 2
      have hfz67_0 := fz BK380 0
      have hfz67_1 := fz BK380 1
      have hfz67_2 := fz BK380 2
      obtain ⟨Ao68, co68, eo68⟩ := Kd.R_slice HO_381002.out
      subst eo68
      have p381 : 0 ≤ (x9_1 : Int) := of_decide_eq_true (by first | (with_reducible assumption) | assumption)
      have q381 : x9_1 < (x381002_1.length : Int) := of_decide_eq_true (by first | (with_reducible assumption) | assumption)
      obtain ⟨ad381, e381, hx381_0, hx381_1, hx381_2⟩ := at_T46 (Kd.R_reads' HO_381002.out).2.2 x9_1 p381 q381
      (try rw [← Nbq28.out] at hx381_0)
      cases e381
      replace p381 := eq_true p381
      replace q381 := eq_true q381
      have hnb69 := NB373_372.out
      have hnc69 := NB372_373.out
      have hcz70_0 := ce BK373 0
      have hcz70_1 := ce BK373 1
      have hcz70_2 := ce BK373 2
      have hfz70_0 := fz BK373 0
      have hfz70_1 := fz BK373 1
      have hfz70_2 := fz BK373 2
      go_wp2
      refine bodyPost_ret (results_ct rfl _ _ gb373 30 #[.int .u64 x381000_1, .int .u64 x381001_1, .slice (some ad381) x381002_1.length co68] (0, 0) _ rfl (by refine pk ?_; refine blk_put (cs := #[.int .u64 x381000_1, .int .u64 x381001_1, .slice none 0 0]) ?_ 2 _ rfl; refine pk ?_; refine blk_put (cs := #[.int .u64 x381000_1, .int .u64 0, .slice none 0 0]) ?_ 1 _ rfl; refine pk ?_; refine blk_put (cs := #[.int .u64 0, .int .u64 0, .slice none 0 0]) ?_ 0 _ rfl; refine pk ?_; exact BK373.out) Try.underlying30 rfl (by kernel_rfl)) rfl ?_
      exact ⟨_, by first | rfl | (simp [errW_none, errW_some] <;> rfl) | (simp [*, errW_none, errW_some] <;> rfl), Kd.V_mono (Kd.R_V (pr (Kd.R_mono (Kd.R_far (p := ⟨gb373, 2, none⟩) (Kd.R_far (p := ⟨gb373, 1, none⟩) (Kd.R_far (p := ⟨gb373, 0, none⟩) (Kd.R_types HO_381002.out BK373.out (by decide)) (fun _ hk => hk.2) (.int .u64 x381000_1)) (fun _ hk => hk.2) (.int .u64 x381001_1)) (fun _ hk => hk.2) (.slice (some ad381) x381002_1.length co68)) (fun _ hk => hk.1)))) (fun k_ hk => by first | exact ⟨(.inr (hk.1)), hk.2⟩ | exact (.inr (hk))), pb HB⟩
    ·rw [if_neg c27] at H
     exact absurd H (by simp)
   ·rw [if_neg c26] at H
    exact absurd H (by simp)
end Go.Proofs.Ytojpmjkphgjmgaa.H
