import Derived.Test.YtojpmjkphgjmgaaHx0
import Derived.Test.YtojpmjkphgjmgaaHx6
import Derived.Test.YtojpmjkphgjmgaaHx7
import Derived.Test.YtojpmjkphgjmgaaHx8
namespace Go.Proofs.Ytojpmjkphgjmgaa.H
open Go.RowKit Go.Proofs.YtojpmjkphgjmgaaW.PrintWords Go.Proofs.YtojpmjkphgjmgaaW.PrintLast Go.Proofs.YtojpmjkphgjmgaaW.PrintMore Go.Proofs.YtojpmjkphgjmgaaW.Sq
attribute [local go_sem] max2_int min2_int max_two min_two max_three min_three max_four min_four
set_option linter.unusedVariables false
set_option linter.unusedSimpArgs false

def index_Delete.l0 : Nat → Int → Int → Int → Int → Int → List (S60) → Option (Int × Int × (List (S60)) × Int)
 | 0, _, _, _, _, _, _ => none
 | k + 1, x6, x9, x10, x234000, x234001, x234002 => if 0 ≤ x10 then (if x10 < (x234002.length : Int) then (if (rd_T60 x234002 x10).f0 = true then ((index_home.f k x234000 x234001 x234002 ((rd_T60 x234002 x10).f1)).bind fun t236 => (if x9 = 0 then (none) else (if (Int.tmod (wrap64 ((wrap64 (x10 - t236)) + x9)) x9) ≥ (Int.tmod (wrap64 ((wrap64 (x10 - x6)) + x9)) x9) then (if 0 ≤ x6 then (if x6 < (x234002.length : Int) then (index_Delete.l0 k x10 x9 (Int.tmod (wrap64 (x10 + 1)) x9) x234000 x234001 (x234002.set (x6 : Int).toNat (⟨(rd_T60 x234002 x10).f0, (rd_T60 x234002 x10).f1, (rd_T60 x234002 x10).f2⟩ : S60))) else (none)) else (none)) else (index_Delete.l0 k x6 x9 (Int.tmod (wrap64 (x10 + 1)) x9) x234000 x234001 x234002)))) else (if 0 ≤ x6 then (if x6 < (x234002.length : Int) then (some (x234000, x234001, (x234002.set (x6 : Int).toNat (⟨false, (⟨#[]⟩ : ByteArray), 0⟩ : S60)), 0)) else (none)) else (none))) else (none)) else (none)
def index_Delete.f (k : Nat) (a0_0 : Int) (a0_1 : Int) (l0_2 : List (S60)) (a1 : ByteArray) : Option (Int × Int × (List (S60)) × Int) := (index_Right.f k a0_0 a0_1 l0_2).bind fun t227 => (if t227 = true then ((index_walk.f k a0_0 a0_1 l0_2 a1).bind fun bt228 => (if bt228.2 = true then ((index_Slot_28.f l0_2).bind fun t230 => (if (t230.length : Int) = 0 then (none) else (index_Delete.l0 k bt228.1 (t230.length : Int) (Int.tmod (wrap64 (bt228.1 + 1)) (t230.length : Int)) a0_0 a0_1 t230))) else (some (a0_0, a0_1, l0_2, 3)))) else (some (a0_0, a0_1, l0_2, 1)))
theorem index_Delete.mono_l : ∀ k, (∀ y0 y1 y2 y3 y4 y5, LeO (index_Delete.l0 k y0 y1 y2 y3 y4 y5) (index_Delete.l0 (k + 1) y0 y1 y2 y3 y4 y5))
 | 0 => fun _ _ _ _ _ _ r h => by simp [index_Delete.l0] at h
 | k + 1 => by
  have ih0 := index_Delete.mono_l k
  ·intro y0 y1 y2 y3 y4 y5
   unfold index_Delete.l0
   repeat' first
   | (with_reducible exact ih0 _ _ _ _ _ _)
   | (with_reducible exact index_Right.mono _ _ _ _)
   | (with_reducible exact index_home.mono _ _ _ _ _)
   | (with_reducible exact index_walk.mono _ _ _ _ _)
   | (with_reducible exact LeO.refl _)
   | (with_reducible exact LeO.none _)
   | (with_reducible refine LeO.ite ?_ ?_)
   | (with_reducible refine LeO.bind ?_ (fun _ => ?_))
theorem index_Delete.mono : ∀ a0 a1 a2 a3 k, LeO (index_Delete.f k a0 a1 a2 a3) (index_Delete.f (k + 1) a0 a1 a2 a3) := by
 intro a0 a1 a2 a3 k
 have ih0 := index_Delete.mono_l k
 unfold index_Delete.f
 repeat' first
   | (with_reducible exact ih0 _ _ _ _ _ _)
   | (with_reducible exact index_Right.mono _ _ _ _)
   | (with_reducible exact index_home.mono _ _ _ _ _)
   | (with_reducible exact index_walk.mono _ _ _ _ _)
   | (with_reducible exact LeO.refl _)
   | (with_reducible exact LeO.none _)
   | (with_reducible refine LeO.ite ?_ ?_)
   | (with_reducible refine LeO.bind ?_ (fun _ => ?_))
def index_Delete.T6 : Bool × List (List Nat × List Nat) := (true, [([], []), ([0], [0]), ([], []), ([2], [2]), ([3], [3]), ([1, 4], [1, 4]), ([], []), ([6, 5, 4, 0, 1, 2, 3, 4, 5, 6], [5, 6])])
def index_Delete.B6 : List Nat := [0, 1, 0, 4, 12, 31, 0, 127]
theorem index_Delete.tab6 : rtab .any (opsOf Try.f14 6) = index_Delete.T6 := by kernel_rfl
theorem index_Delete.bits6 : waitsOk index_Delete.T6.2 index_Delete.B6 = true := by kernel_rfl
def index_Delete.T11 : Bool × List (List Nat × List Nat) := (true, [([], []), ([], []), ([1], [1]), ([], []), ([2, 3], [2, 3]), ([4], [4]), ([5], [5]), ([0, 6], [0, 6]), ([7, 7, 0, 1, 2, 3, 4, 5, 6, 7], [7])])
def index_Delete.B11 : List Nat := [0, 0, 2, 0, 14, 30, 62, 127, 255]
theorem index_Delete.tab11 : rtab .any (opsOf Try.f14 11) = index_Delete.T11 := by kernel_rfl
theorem index_Delete.bits11 : waitsOk index_Delete.T11.2 index_Delete.B11 = true := by kernel_rfl
def index_Delete.T12 : Bool × List (List Nat × List Nat) := (true, [([], []), ([], []), ([0, 1], [0, 1]), ([], []), ([2, 3], [2, 3]), ([], []), ([4, 5], [4, 5]), ([], []), ([], []), ([7, 8], [7, 8]), ([], []), ([9, 10], [9, 10]), ([], []), ([11, 12], [11, 12]), ([6, 13], [6, 13])])
def index_Delete.B12 : List Nat := [0, 0, 3, 0, 15, 0, 63, 0, 0, 384, 0, 1920, 0, 8064, 16383]
theorem index_Delete.tab12 : rtab .any (opsOf Try.f14 12) = index_Delete.T12 := by kernel_rfl
theorem index_Delete.bits12 : waitsOk index_Delete.T12.2 index_Delete.B12 = true := by kernel_rfl
def index_Delete.T13 : Bool × List (List Nat × List Nat) := (true, [([], []), ([0], [0]), ([], []), ([], []), ([3], [3]), ([], []), ([4, 5], [4, 5]), ([6], [6]), ([1, 2, 0, 1, 2, 3, 4, 5, 6, 7], [1, 2]), ([8, 7, 0, 1, 2, 3, 4, 5, 6, 7], [7, 8])])
def index_Delete.B13 : List Nat := [0, 1, 0, 0, 8, 0, 56, 120, 255, 511]
theorem index_Delete.tab13 : rtab .any (opsOf Try.f14 13) = index_Delete.T13 := by kernel_rfl
theorem index_Delete.bits13 : waitsOk index_Delete.T13.2 index_Delete.B13 = true := by kernel_rfl
set_option maxHeartbeats 8000000 in
set_option maxRecDepth 100000 in
theorem index_Delete.calls (k : Nat) (a0_0 : Int) (a0_1 : Int) (P0_2_ : Nat → Prop) (A0_2 : Option Addr) (c0_2 : Nat) (l0_2 : List (S60)) (a1 : ByteArray) (r1 : Int) (r2 : Int) (r3 : List (S60)) (r4 : Int) (w : World) (hs0_2 : Kd.V k60 60 w w.heap.size (fun k_ => P0_2_ k_) (.slice A0_2 l0_2.length c0_2) l0_2) (h : index_Delete.f k a0_0 a0_1 l0_2 a1 = some (r1, r2, r3, r4)) :
  Calls Try.prog 14 #[.agg #[.int .u64 a0_0, .int .u64 a0_1, .slice A0_2 l0_2.length c0_2], .string a1] w fun e w' => ∃ v2_ : Value, e = .returned (.tuple #[.agg #[.int .u64 r1, .int .u64 r2, v2_], .int .i64 r4]) ∧ Kd.V k60 60 w' w.heap.size (fun k_ => (P0_2_ k_ ∨ w.heap.size ≤ k_)) v2_ r3 ∧ Below w.heap.size w w' := by
 have hu27 := Try.underlying27
 have hu24 := Try.underlying24
 have hu60 := Try.underlying60
 have HO0_2 := am (show Kd.V k60 60 w w.heap.size (fun k_ => (P0_2_ k_ ∨ w.heap.size ≤ k_)) (.slice A0_2 l0_2.length c0_2) l0_2 from Kd.V_mono hs0_2 (fun k_ hk => .inl hk))
 have HB := am (Below.refl w.heap.size w)
 have H : ((index_Right.f k a0_0 a0_1 l0_2).bind fun t227 => (if t227 = true then ((index_walk.f k a0_0 a0_1 l0_2 a1).bind fun bt228 => (if bt228.2 = true then ((index_Slot_28.f l0_2).bind fun t230 => (if (t230.length : Int) = 0 then (none) else (index_Delete.l0 k bt228.1 (t230.length : Int) (Int.tmod (wrap64 (bt228.1 + 1)) (t230.length : Int)) a0_0 a0_1 t230))) else (some (a0_0, a0_1, l0_2, 3)))) else (some (a0_0, a0_1, l0_2, 1)))) = some (r1, r2, r3, r4) := h
 clear h
 replace H := Option.bind_eq_some_iff.mp H
 obtain ⟨t227, A30, H⟩ := H
 replace H : (if t227 = true then ((index_walk.f k a0_0 a0_1 l0_2 a1).bind fun bt228 => (if bt228.2 = true then ((index_Slot_28.f l0_2).bind fun t230 => (if (t230.length : Int) = 0 then (none) else (index_Delete.l0 k bt228.1 (t230.length : Int) (Int.tmod (wrap64 (bt228.1 + 1)) (t230.length : Int)) a0_0 a0_1 t230))) else (some (a0_0, a0_1, l0_2, 3)))) else (some (a0_0, a0_1, l0_2, 1))) = some (r1, r2, r3, r4) := H
 have A3 := am A30
 clear A30
 by_cases c4 : t227 = true
 rotate_left
 ·replace c4 := Bool.eq_false_iff.mpr c4
  subst c4
  have H1 : (some (a0_0, a0_1, l0_2, 1)) = some (r1, r2, r3, r4) := by rw [if_neg (show ¬ (false = true) by decide)] at H; exact H
  clear H
  have H := H1
  clear H1
  simp only [Option.some.injEq, Prod.mk.injEq] at H
  obtain ⟨rfl, rfl, rfl, rfl⟩ := H
  go_enter Try.func14, Try.ntmps14
  go_wp2_with (first | ((with_reducible refine gate_dst (N := 2) rfl ?_); refine be 2 #[.int .u64 a0_0, .int .u64 a0_1, .slice A0_2 l0_2.length c0_2] 27 ?_; intro gb225 hg w75 hbox hb; have n0_ := am (Kd.V_below (Kd.V_elderB (pv HO0_2.out) gb225 (Nat.le_of_eq hg.symm)) hb); have n1_ := am (below_step (pb HB) hb); have n2_ := am (hbox); have n3_ := am ((pg hg HB : w.heap.size ≤ gb225)); have n4_ := am ((pg hg HB : w.heap.size ≤ gb225)); clear HO0_2; clear HB; have HO0_2 := n0_; have HB := n1_; have BK225 := n2_; have GW225 := n3_; have GE225 := n4_; clear n0_ n1_ n2_ n3_ n4_; clear hb hbox hg) | ((with_reducible refine gate_dst (N := 4) rfl ?_); refine be 4 #[.int .u64 0, .int .u64 0, .slice none 0 0] 27 ?_; intro gb226 hg w76 hbox hb; have n0_ := am (Kd.V_below (Kd.V_elderB (pv HO0_2.out) gb226 (Nat.le_of_eq hg.symm)) hb); have n1_ := am (blk_below (pk BK225.out) hb); have n2_ := am (below_step (pb HB) hb); have n3_ := am (hbox); have n4_ := am ((pg hg HB : w.heap.size ≤ gb226)); have n5_ := am ((pg hg HB : w.heap.size ≤ gb226)); have n6_ := am ((pl hg (pk BK225.out) : gb225 ≠ gb226)); have n7_ := am ((pl' hg (pk BK225.out) : gb226 ≠ gb225)); clear HO0_2; clear BK225; clear HB; have HO0_2 := n0_; have BK225 := n1_; have HB := n2_; have BK226 := n3_; have GW226 := n4_; have GE226 := n5_; have NB225_226 := n6_; have NB226_225 := n7_; clear n0_ n1_ n2_ n3_ n4_ n5_ n6_ n7_; clear hb hbox hg; have hnb77 := NB225_226.out; have hnc77 := NB226_225.out; have hcz78_0 := ce BK225 0; have hcz78_1 := ce BK225 1; have hcz78_2 := ce BK225 2; have hfz78_0 := fz BK225 0; have hfz78_1 := fz BK225 1; have hfz78_2 := fz BK225 2) | ((with_reducible refine gate_callee (f := 15) rfl ?_); refine gl (some 13) Try.func15 #[.agg #[.int .u64 a0_0, .int .u64 a0_1, .slice A0_2 l0_2.length c0_2]] ?_; (with_reducible refine (index_Right.calls k a0_0 a0_1 _ _ l0_2 false _ ?side1 ?side2 A3.out).mono ?_); (case side1 => repeat (first | exact (Kd.V_reads' HO0_2.out).2.2 | (with_reducible refine Kd.C_alloc ?_ _) | (with_reducible refine Kd.C_drewN ?_ _) | (with_reducible refine Kd.C_drew ?_))); (case side2 => exact (Kd.V_reads' HO0_2.out).2.1); rintro e w79 ⟨rfl, hb⟩; refine ⟨_, rfl, ?_⟩; replace HO0_2 := am (Kd.V_below (pv HO0_2.out) hb); replace BK225 := am (blk_below (pk BK225.out) hb); replace BK226 := am (blk_below (pk BK226.out) hb); replace HB := am (below_step (pb HB) hb); (try clear hb); (try clear hb2); (try clear hk); (try clear hi); have hcz80_0 := ce BK225 0; have hcz80_1 := ce BK225 1; have hcz80_2 := ce BK225 2; have hfz80_0 := fz BK225 0; have hfz80_1 := fz BK225 1; have hfz80_2 := fz BK225 2; have hcz81_0 := ce BK226 0; have hcz81_1 := ce BK226 1; have hcz81_2 := ce BK226 2; have hfz81_0 := fz BK226 0; have hfz81_1 := fz BK226 1; have hfz81_2 := fz BK226 2))
  refine bodyPost_ret (results_ct rfl _ _ gb226 27 #[.int .u64 a0_0, .int .u64 a0_1, .slice A0_2 l0_2.length c0_2] (0, 0) _ rfl (by refine pk ?_; refine blk_put (cs := #[.int .u64 a0_0, .int .u64 a0_1, .slice none 0 0]) ?_ 2 _ rfl; refine pk ?_; refine blk_put (cs := #[.int .u64 a0_0, .int .u64 0, .slice none 0 0]) ?_ 1 _ rfl; refine pk ?_; refine blk_put (cs := #[.int .u64 0, .int .u64 0, .slice none 0 0]) ?_ 0 _ rfl; refine pk ?_; exact BK226.out) Try.underlying27 rfl (by kernel_rfl)) rfl ?_
  exact ⟨_, by first | rfl | (simp [errW_none, errW_some] <;> rfl) | (simp [*, errW_none, errW_some] <;> rfl), by refine pv ?_; exact Kd.V_mono (Kd.V_far (p := ⟨gb226, 2, none⟩) (Kd.V_far (p := ⟨gb226, 1, none⟩) (Kd.V_far (p := ⟨gb226, 0, none⟩) (Kd.V_mono HO0_2.out (fun k_ hk => (⟨hk, hk.2⟩ : _ ∧ k_ ≠ gb226))) (fun _ hk => hk.2) (.int .u64 a0_0)) (fun _ hk => hk.2) (.int .u64 a0_1)) (fun _ hk => hk.2) (.slice A0_2 l0_2.length c0_2)) (fun _ hk => hk.1.1.1), pb HB⟩
 subst c4
 have H1 : ((index_walk.f k a0_0 a0_1 l0_2 a1).bind fun bt228 => (if bt228.2 = true then ((index_Slot_28.f l0_2).bind fun t230 => (if (t230.length : Int) = 0 then (none) else (index_Delete.l0 k bt228.1 (t230.length : Int) (Int.tmod (wrap64 (bt228.1 + 1)) (t230.length : Int)) a0_0 a0_1 t230))) else (some (a0_0, a0_1, l0_2, 3)))) = some (r1, r2, r3, r4) := by rw [if_pos rfl] at H; exact H
 clear H
 have H := H1
 clear H1
 replace H := Option.bind_eq_some_iff.mp H
 obtain ⟨⟨t228, t229⟩, A50, H⟩ := H
 replace H : (if t229 = true then ((index_Slot_28.f l0_2).bind fun t230 => (if (t230.length : Int) = 0 then (none) else (index_Delete.l0 k t228 (t230.length : Int) (Int.tmod (wrap64 (t228 + 1)) (t230.length : Int)) a0_0 a0_1 t230))) else (some (a0_0, a0_1, l0_2, 3))) = some (r1, r2, r3, r4) := H
 have A5 := am A50
 clear A50
 by_cases c6 : t229 = true
 rotate_left
 ·replace c6 := Bool.eq_false_iff.mpr c6
  subst c6
  have H1 : (some (a0_0, a0_1, l0_2, 3)) = some (r1, r2, r3, r4) := by rw [if_neg (show ¬ (false = true) by decide)] at H; exact H
  clear H
  have H := H1
  clear H1
  simp only [Option.some.injEq, Prod.mk.injEq] at H
  obtain ⟨rfl, rfl, rfl, rfl⟩ := H
  go_enter Try.func14, Try.ntmps14
  go_wp2_with (first | ((with_reducible refine gate_dst (N := 2) rfl ?_); refine be 2 #[.int .u64 a0_0, .int .u64 a0_1, .slice A0_2 l0_2.length c0_2] 27 ?_; intro gb225 hg w66 hbox hb; have n0_ := am (Kd.V_below (Kd.V_elderB (pv HO0_2.out) gb225 (Nat.le_of_eq hg.symm)) hb); have n1_ := am (below_step (pb HB) hb); have n2_ := am (hbox); have n3_ := am ((pg hg HB : w.heap.size ≤ gb225)); have n4_ := am ((pg hg HB : w.heap.size ≤ gb225)); clear HO0_2; clear HB; have HO0_2 := n0_; have HB := n1_; have BK225 := n2_; have GW225 := n3_; have GE225 := n4_; clear n0_ n1_ n2_ n3_ n4_; clear hb hbox hg) | ((with_reducible refine gate_dst (N := 4) rfl ?_); refine be 4 #[.int .u64 0, .int .u64 0, .slice none 0 0] 27 ?_; intro gb226 hg w67 hbox hb; have n0_ := am (Kd.V_below (Kd.V_elderB (pv HO0_2.out) gb226 (Nat.le_of_eq hg.symm)) hb); have n1_ := am (blk_below (pk BK225.out) hb); have n2_ := am (below_step (pb HB) hb); have n3_ := am (hbox); have n4_ := am ((pg hg HB : w.heap.size ≤ gb226)); have n5_ := am ((pg hg HB : w.heap.size ≤ gb226)); have n6_ := am ((pl hg (pk BK225.out) : gb225 ≠ gb226)); have n7_ := am ((pl' hg (pk BK225.out) : gb226 ≠ gb225)); clear HO0_2; clear BK225; clear HB; have HO0_2 := n0_; have BK225 := n1_; have HB := n2_; have BK226 := n3_; have GW226 := n4_; have GE226 := n5_; have NB225_226 := n6_; have NB226_225 := n7_; clear n0_ n1_ n2_ n3_ n4_ n5_ n6_ n7_; clear hb hbox hg; have hnb68 := NB225_226.out; have hnc68 := NB226_225.out; have hcz69_0 := ce BK225 0; have hcz69_1 := ce BK225 1; have hcz69_2 := ce BK225 2; have hfz69_0 := fz BK225 0; have hfz69_1 := fz BK225 1; have hfz69_2 := fz BK225 2) | ((with_reducible refine gate_callee (f := 15) rfl ?_); refine gl (some 13) Try.func15 #[.agg #[.int .u64 a0_0, .int .u64 a0_1, .slice A0_2 l0_2.length c0_2]] ?_; (with_reducible refine (index_Right.calls k a0_0 a0_1 _ _ l0_2 true _ ?side1 ?side2 A3.out).mono ?_); (case side1 => repeat (first | exact (Kd.V_reads' HO0_2.out).2.2 | (with_reducible refine Kd.C_alloc ?_ _) | (with_reducible refine Kd.C_drewN ?_ _) | (with_reducible refine Kd.C_drew ?_))); (case side2 => exact (Kd.V_reads' HO0_2.out).2.1); rintro e w70 ⟨rfl, hb⟩; refine ⟨_, rfl, ?_⟩; replace HO0_2 := am (Kd.V_below (pv HO0_2.out) hb); replace BK225 := am (blk_below (pk BK225.out) hb); replace BK226 := am (blk_below (pk BK226.out) hb); replace HB := am (below_step (pb HB) hb); (try clear hb); (try clear hb2); (try clear hk); (try clear hi); have hcz71_0 := ce BK225 0; have hcz71_1 := ce BK225 1; have hcz71_2 := ce BK225 2; have hfz71_0 := fz BK225 0; have hfz71_1 := fz BK225 1; have hfz71_2 := fz BK225 2) | ((with_reducible refine gate_callee (f := 25) rfl ?_); refine gl (some 19) Try.func25 #[.agg #[.int .u64 a0_0, .int .u64 a0_1, .slice A0_2 l0_2.length c0_2], .string a1] ?_; (with_reducible refine (index_walk.calls k a0_0 a0_1 _ _ l0_2 a1 t228 false _ ?side1 ?side2 A5.out).mono ?_); (case side1 => repeat (first | exact (Kd.V_reads' HO0_2.out).2.2 | (with_reducible refine Kd.C_alloc ?_ _) | (with_reducible refine Kd.C_drewN ?_ _) | (with_reducible refine Kd.C_drew ?_))); (case side2 => exact (Kd.V_reads' HO0_2.out).2.1); rintro e w72 ⟨rfl, hb⟩; refine ⟨_, rfl, ?_⟩; replace HO0_2 := am (Kd.V_below (pv HO0_2.out) hb); replace BK225 := am (blk_below (pk BK225.out) hb); replace BK226 := am (blk_below (pk BK226.out) hb); replace HB := am (below_step (pb HB) hb); (try clear hb); (try clear hb2); (try clear hk); (try clear hi); have hcz73_0 := ce BK225 0; have hcz73_1 := ce BK225 1; have hcz73_2 := ce BK225 2; have hfz73_0 := fz BK225 0; have hfz73_1 := fz BK225 1; have hfz73_2 := fz BK225 2; have hcz74_0 := ce BK226 0; have hcz74_1 := ce BK226 1; have hcz74_2 := ce BK226 2; have hfz74_0 := fz BK226 0; have hfz74_1 := fz BK226 1; have hfz74_2 := fz BK226 2))
  refine bodyPost_ret (results_ct rfl _ _ gb226 27 #[.int .u64 a0_0, .int .u64 a0_1, .slice A0_2 l0_2.length c0_2] (0, 0) _ rfl (by refine pk ?_; refine blk_put (cs := #[.int .u64 a0_0, .int .u64 a0_1, .slice none 0 0]) ?_ 2 _ rfl; refine pk ?_; refine blk_put (cs := #[.int .u64 a0_0, .int .u64 0, .slice none 0 0]) ?_ 1 _ rfl; refine pk ?_; refine blk_put (cs := #[.int .u64 0, .int .u64 0, .slice none 0 0]) ?_ 0 _ rfl; refine pk ?_; exact BK226.out) Try.underlying27 rfl (by kernel_rfl)) rfl ?_
  exact ⟨_, by first | rfl | (simp [errW_none, errW_some] <;> rfl) | (simp [*, errW_none, errW_some] <;> rfl), by refine pv ?_; exact Kd.V_mono (Kd.V_far (p := ⟨gb226, 2, none⟩) (Kd.V_far (p := ⟨gb226, 1, none⟩) (Kd.V_far (p := ⟨gb226, 0, none⟩) (Kd.V_mono HO0_2.out (fun k_ hk => (⟨hk, hk.2⟩ : _ ∧ k_ ≠ gb226))) (fun _ hk => hk.2) (.int .u64 a0_0)) (fun _ hk => hk.2) (.int .u64 a0_1)) (fun _ hk => hk.2) (.slice A0_2 l0_2.length c0_2)) (fun _ hk => hk.1.1.1), pb HB⟩
 subst c6
 have H1 : ((index_Slot_28.f l0_2).bind fun t230 => (if (t230.length : Int) = 0 then (none) else (index_Delete.l0 k t228 (t230.length : Int) (Int.tmod (wrap64 (t228 + 1)) (t230.length : Int)) a0_0 a0_1 t230))) = some (r1, r2, r3, r4) := by rw [if_pos rfl] at H; exact H
 clear H
 have H := H1
 clear H1
 replace H := Option.bind_eq_some_iff.mp H
 obtain ⟨t230, A70, H⟩ := H
 replace H : (if (t230.length : Int) = 0 then (none) else (index_Delete.l0 k t228 (t230.length : Int) (Int.tmod (wrap64 (t228 + 1)) (t230.length : Int)) a0_0 a0_1 t230)) = some (r1, r2, r3, r4) := H
 have A7 := am A70
 clear A70
 by_cases c8 : (t230.length : Int) = 0
 ·rw [if_pos c8] at H
  exact absurd H (by simp)
 rw [if_neg c8] at H
 have c8b0 : ((t230.length : Int) == 0) = false := beq_eq_false_iff_ne.mpr c8
 have c8b1 : ((t230.length : Int) != 0) = true := bne_iff_ne.mpr c8
 have c8b2 : ¬ (t230 = []) := fun h_ => c8 (by rw [h_]; rfl)
 have H' := am H
 clear H
 go_enter Try.func14, Try.ntmps14
 try go_wp2_with (first | ((with_reducible refine gate_dst (N := 2) rfl ?_); refine be 2 #[.int .u64 a0_0, .int .u64 a0_1, .slice A0_2 l0_2.length c0_2] 27 ?_; intro gb225 hg w9 hbox hb; have n0_ := am (Kd.V_below (Kd.V_elderB (pv HO0_2.out) gb225 (Nat.le_of_eq hg.symm)) hb); have n1_ := am (below_step (pb HB) hb); have n2_ := am (hbox); have n3_ := am ((pg hg HB : w.heap.size ≤ gb225)); have n4_ := am ((pg hg HB : w.heap.size ≤ gb225)); clear HO0_2; clear HB; have HO0_2 := n0_; have HB := n1_; have BK225 := n2_; have GW225 := n3_; have GE225 := n4_; clear n0_ n1_ n2_ n3_ n4_; clear hb hbox hg) | ((with_reducible refine gate_dst (N := 4) rfl ?_); refine be 4 #[.int .u64 0, .int .u64 0, .slice none 0 0] 27 ?_; intro gb226 hg w10 hbox hb; have n0_ := am (Kd.V_below (Kd.V_elderB (pv HO0_2.out) gb226 (Nat.le_of_eq hg.symm)) hb); have n1_ := am (blk_below (pk BK225.out) hb); have n2_ := am (below_step (pb HB) hb); have n3_ := am (hbox); have n4_ := am ((pg hg HB : w.heap.size ≤ gb226)); have n5_ := am ((pg hg HB : w.heap.size ≤ gb226)); have n6_ := am ((pl hg (pk BK225.out) : gb225 ≠ gb226)); have n7_ := am ((pl' hg (pk BK225.out) : gb226 ≠ gb225)); clear HO0_2; clear BK225; clear HB; have HO0_2 := n0_; have BK225 := n1_; have HB := n2_; have BK226 := n3_; have GW226 := n4_; have GE226 := n5_; have NB225_226 := n6_; have NB226_225 := n7_; clear n0_ n1_ n2_ n3_ n4_ n5_ n6_ n7_; clear hb hbox hg; have hnb11 := NB225_226.out; have hnc11 := NB226_225.out; have hcz12_0 := ce BK225 0; have hcz12_1 := ce BK225 1; have hcz12_2 := ce BK225 2; have hfz12_0 := fz BK225 0; have hfz12_1 := fz BK225 1; have hfz12_2 := fz BK225 2) | ((with_reducible refine gate_callee (f := 15) rfl ?_); refine gl (some 13) Try.func15 #[.agg #[.int .u64 a0_0, .int .u64 a0_1, .slice A0_2 l0_2.length c0_2]] ?_; (with_reducible refine (index_Right.calls k a0_0 a0_1 _ _ l0_2 true _ ?side1 ?side2 A3.out).mono ?_); (case side1 => repeat (first | exact (Kd.V_reads' HO0_2.out).2.2 | (with_reducible refine Kd.C_alloc ?_ _) | (with_reducible refine Kd.C_drewN ?_ _) | (with_reducible refine Kd.C_drew ?_))); (case side2 => exact (Kd.V_reads' HO0_2.out).2.1); rintro e w13 ⟨rfl, hb⟩; refine ⟨_, rfl, ?_⟩; replace HO0_2 := am (Kd.V_below (pv HO0_2.out) hb); replace BK225 := am (blk_below (pk BK225.out) hb); replace BK226 := am (blk_below (pk BK226.out) hb); replace HB := am (below_step (pb HB) hb); (try clear hb); (try clear hb2); (try clear hk); (try clear hi); have hcz14_0 := ce BK225 0; have hcz14_1 := ce BK225 1; have hcz14_2 := ce BK225 2; have hfz14_0 := fz BK225 0; have hfz14_1 := fz BK225 1; have hfz14_2 := fz BK225 2) | ((with_reducible refine gate_callee (f := 25) rfl ?_); refine gl (some 19) Try.func25 #[.agg #[.int .u64 a0_0, .int .u64 a0_1, .slice A0_2 l0_2.length c0_2], .string a1] ?_; (with_reducible refine (index_walk.calls k a0_0 a0_1 _ _ l0_2 a1 t228 true _ ?side1 ?side2 A5.out).mono ?_); (case side1 => repeat (first | exact (Kd.V_reads' HO0_2.out).2.2 | (with_reducible refine Kd.C_alloc ?_ _) | (with_reducible refine Kd.C_drewN ?_ _) | (with_reducible refine Kd.C_drew ?_))); (case side2 => exact (Kd.V_reads' HO0_2.out).2.1); rintro e w15 ⟨rfl, hb⟩; refine ⟨_, rfl, ?_⟩; replace HO0_2 := am (Kd.V_below (pv HO0_2.out) hb); replace BK225 := am (blk_below (pk BK225.out) hb); replace BK226 := am (blk_below (pk BK226.out) hb); replace HB := am (below_step (pb HB) hb); (try clear hb); (try clear hb2); (try clear hk); (try clear hi)))
 replace HO0_2 := am (Kd.V_drew HO0_2.out)
 replace BK225 := am (blk_drew BK225.out)
 replace BK226 := am (blk_drew BK226.out)
 replace HB := am (below_drew1 HB.out)
 refine start_ (n := 8) (S := fun w' => w'.cell? ⟨gb225, 0, none⟩ = some (.int .u64 a0_0) ∧ w'.cell? ⟨gb225, 1, none⟩ = some (.int .u64 a0_1) ∧ w'.cell? ⟨gb225, 2, none⟩ = some (.slice A0_2 l0_2.length c0_2)) (ds := []) #[false, false, false, false, false, false, false, false] (by kernel_rfl) rfl rfl ⟨ce BK225 0, ce BK225 1, ce BK225 2⟩ (fun hHeld => ?_); refine with_tabW index_Delete.tab6 index_Delete.bits6 (fun HT_ HW_ => ?_)
 generalize w15.drew = w16 at HO0_2 BK225 BK226 HB hHeld ⊢
 refine pu 0 ?_
 refine pu 2 ?_
 refine ta 1 hHeld ?_
 refine ta 3 hHeld ?_
 refine join_ (σ := Value × Nat) 1 #[true, true, true, true, true, true, true, false] (fun s_ => [(29, s_.1), (8, .pointer (some ⟨s_.2, 0, none⟩)), (30, .agg #[.int .u64 a0_0, .int .u64 a0_1, s_.1])]) (fun s_ w' => (w'.cell? ⟨gb225, 0, none⟩ = some (.int .u64 a0_0) ∧ w'.cell? ⟨gb225, 1, none⟩ = some (.int .u64 a0_1) ∧ w'.cell? ⟨gb225, 2, none⟩ = some (.slice A0_2 l0_2.length c0_2)) ∧ (Kd.V k60 60 w' w.heap.size (fun k_ => (P0_2_ k_ ∨ w.heap.size ≤ k_) ∧ some k_ ≠ (s_.1 : Value).ownBlock ∧ k_ ≠ gb225 ∧ k_ ≠ gb226 ∧ k_ ≠ s_.2) (.slice A0_2 l0_2.length c0_2) l0_2) ∧ (Kd.R k60 60 w' w.heap.size (fun k_ => (w.heap.size ≤ k_)) s_.1 t230) ∧ (w'.heap[gb225]? = some (.cells #[.int .u64 a0_0, .int .u64 a0_1, .slice A0_2 l0_2.length c0_2] 27 (0, 0))) ∧ (w'.heap[gb226]? = some (.cells #[.int .u64 0, .int .u64 0, .slice none 0 0] 27 (0, 0))) ∧ (w'.heap[s_.2]? = some (.cells #[.int .u64 0, .int .u64 0, .slice none 0 0] 27 (0, 0))) ∧ (w.heap.size ≤ s_.2) ∧ (w.heap.size ≤ s_.2) ∧ (gb225 ≠ s_.2) ∧ (s_.2 ≠ gb225) ∧ (gb226 ≠ s_.2) ∧ (s_.2 ≠ gb226) ∧ (Below w.heap.size w w')) ?_ ?_
 rotate_left
 ·intro hCont
  refine two_ (i := 4) (j := 6) (Ni := some 29) (Nj := some 8) #[true, true, true, true, true, false, false, false] #[true, true, true, true, false, false, true, false] rfl rfl rfl rfl (two_of HT_.out (by kernel_rfl)) (by decide) (by decide) (fun K hK => ?_) (fun K hK => ?_)
  ·skip
   refine gs Try.func28 #[.slice A0_2 l0_2.length c0_2] ?_
   with_reducible refine (index_Slot_28.calls _ _ l0_2 t230 _ ?side1 ?side2 A7.out).mono ?_
   (case side1 => repeat (first | exact (Kd.V_reads' HO0_2.out).2.2 | (with_reducible refine Kd.C_alloc ?_ _) | (with_reducible refine Kd.C_drewN ?_ _) | (with_reducible refine Kd.C_drew ?_)))
   (case side2 => exact (Kd.V_reads' HO0_2.out).2.1)
   rintro e w17 ⟨v231, rfl, ho0, hb⟩
   refine ⟨_, rfl, ?_⟩
   replace HO0_2 := am (Kd.V_elder' (pv HO0_2.out) (Kd.R_base ho0) hb)
   have HO232 := am (Kd.R_lower (Kd.R_newM (M := fun k_ => (w.heap.size ≤ k_)) ho0 (below_size (pb HB)) (fun k_ h_ => h_)) (below_size (pb HB)))
   replace BK225 := am (blk_below (pk BK225.out) hb)
   replace BK226 := am (blk_below (pk BK226.out) hb)
   replace HB := am (below_step (pb HB) hb)
   (try clear hb)
   (try clear hb2)
   (try clear hk)
   (try clear hi)
   (try clear ho0)
   obtain ⟨Ao18, co18, eo18⟩ := Kd.R_slice HO232.out
   (first | subst eo18 | (injection eo18 with f1_ f2_ f3_; have f4_ := f1_.symm; have f5_ := f3_.symm; clear f1_ f2_ f3_; subst f4_; subst f5_))
   refine hK.out _ _ ⟨ce BK225 0, ce BK225 1, ce BK225 2⟩ (fun hHeld => ?_)
   clear hK K
   refine nm ?_
   refine pu 5 ?_
   refine on1 6 (fun K hK => ?_)
   refine bx 8 #[.int .u64 0, .int .u64 0, .slice none 0 0] 27 ?_
   intro gb233 hg w19 hbox hb
   have n0_ := am (Kd.V_below (Kd.V_elderB (pv HO0_2.out) gb233 (Nat.le_of_eq hg.symm)) hb)
   have n1_ := am (Kd.R_below (pr HO232.out) hb)
   have n2_ := am (blk_below (pk BK225.out) hb)
   have n3_ := am (blk_below (pk BK226.out) hb)
   have n4_ := am (below_step (pb HB) hb)
   have n5_ := am (hbox)
   have n6_ := am ((pg hg HB : w.heap.size ≤ gb233))
   have n7_ := am ((pg hg HB : w.heap.size ≤ gb233))
   have n8_ := am ((pl hg (pk BK225.out) : gb225 ≠ gb233))
   have n9_ := am ((pl' hg (pk BK225.out) : gb233 ≠ gb225))
   have n10_ := am ((pl hg (pk BK226.out) : gb226 ≠ gb233))
   have n11_ := am ((pl' hg (pk BK226.out) : gb233 ≠ gb226))
   clear HO0_2 HO232 BK225 BK226 HB
   have HO0_2 := n0_
   have HO232 := n1_
   have BK225 := n2_
   have BK226 := n3_
   have HB := n4_
   have BK233 := n5_
   have GW233 := n6_
   have GE233 := n7_
   have NB225_233 := n8_
   have NB233_225 := n9_
   have NB226_233 := n10_
   have NB233_226 := n11_
   clear n0_ n1_ n2_ n3_ n4_ n5_ n6_ n7_ n8_ n9_ n10_ n11_ hb hbox hg
   refine hK.out _ _ ⟨ce BK225 0, ce BK225 1, ce BK225 2⟩ (fun hHeld => ?_)
   clear hK K
   refine nm ?_
   exact nj (hCont (.slice Ao18 t230.length co18, gb233) _ ⟨hHeld, (pv (Kd.V_mono HO0_2.out (fun _ hk => ⟨hk.1.1.1.1, ⟨hk.1.2, ⟨hk.1.1.1.2, ⟨hk.1.1.2, hk.2⟩⟩⟩⟩))), (pr (Kd.R_mono HO232.out (fun _ hk => hk.1))), (pk BK225.out), (pk BK226.out), (pk BK233.out), GW233.out, GE233.out, NB225_233.out, NB233_225.out, NB226_233.out, NB233_226.out, (pb HB)⟩)
  ·skip
   refine bx 8 #[.int .u64 0, .int .u64 0, .slice none 0 0] 27 ?_
   intro gb233 hg w17 hbox hb
   have n0_ := am (Kd.V_below (Kd.V_elderB (pv HO0_2.out) gb233 (Nat.le_of_eq hg.symm)) hb)
   have n1_ := am (blk_below (pk BK225.out) hb)
   have n2_ := am (blk_below (pk BK226.out) hb)
   have n3_ := am (below_step (pb HB) hb)
   have n4_ := am (hbox)
   have n5_ := am ((pg hg HB : w.heap.size ≤ gb233))
   have n6_ := am ((pg hg HB : w.heap.size ≤ gb233))
   have n7_ := am ((pl hg (pk BK225.out) : gb225 ≠ gb233))
   have n8_ := am ((pl' hg (pk BK225.out) : gb233 ≠ gb225))
   have n9_ := am ((pl hg (pk BK226.out) : gb226 ≠ gb233))
   have n10_ := am ((pl' hg (pk BK226.out) : gb233 ≠ gb226))
   clear HO0_2 BK225 BK226 HB
   have HO0_2 := n0_
   have BK225 := n1_
   have BK226 := n2_
   have HB := n3_
   have BK233 := n4_
   have GW233 := n5_
   have GE233 := n6_
   have NB225_233 := n7_
   have NB233_225 := n8_
   have NB226_233 := n9_
   have NB233_226 := n10_
   clear n0_ n1_ n2_ n3_ n4_ n5_ n6_ n7_ n8_ n9_ n10_ hb hbox hg
   refine hK.out _ _ ⟨ce BK225 0, ce BK225 1, ce BK225 2⟩ (fun hHeld => ?_)
   clear hK K
   refine nm ?_
   refine on1 4 (fun K hK => ?_)
   refine gs Try.func28 #[.slice A0_2 l0_2.length c0_2] ?_
   with_reducible refine (index_Slot_28.calls _ _ l0_2 t230 _ ?side1 ?side2 A7.out).mono ?_
   (case side1 => repeat (first | exact (Kd.V_reads' HO0_2.out).2.2 | (with_reducible refine Kd.C_alloc ?_ _) | (with_reducible refine Kd.C_drewN ?_ _) | (with_reducible refine Kd.C_drew ?_)))
   (case side2 => exact (Kd.V_reads' HO0_2.out).2.1)
   rintro e w18 ⟨v231, rfl, ho0, hb⟩
   refine ⟨_, rfl, ?_⟩
   replace HO0_2 := am (Kd.V_elder' (pv HO0_2.out) (Kd.R_base ho0) hb)
   have HO232 := am (Kd.R_lower (Kd.R_newM (M := fun k_ => (w.heap.size ≤ k_)) ho0 (below_size (pb HB)) (fun k_ h_ => h_)) (below_size (pb HB)))
   replace BK225 := am (blk_below (pk BK225.out) hb)
   replace BK226 := am (blk_below (pk BK226.out) hb)
   replace BK233 := am (blk_below (pk BK233.out) hb)
   replace HB := am (below_step (pb HB) hb)
   (try clear hb)
   (try clear hb2)
   (try clear hk)
   (try clear hi)
   (try clear ho0)
   obtain ⟨Ao19, co19, eo19⟩ := Kd.R_slice HO232.out
   (first | subst eo19 | (injection eo19 with f1_ f2_ f3_; have f4_ := f1_.symm; have f5_ := f3_.symm; clear f1_ f2_ f3_; subst f4_; subst f5_))
   refine hK.out _ _ ⟨ce BK225 0, ce BK225 1, ce BK225 2⟩ (fun hHeld => ?_)
   clear hK K
   refine nm ?_
   refine pu 5 ?_
   exact nj (hCont (.slice Ao19 t230.length co19, gb233) _ ⟨hHeld, (pv (Kd.V_mono HO0_2.out (fun _ hk => ⟨hk.1.1.1.1, ⟨hk.2, ⟨hk.1.1.1.2, ⟨hk.1.1.2, hk.1.2⟩⟩⟩⟩))), (pr (Kd.R_mono HO232.out (fun _ hk => hk.1))), (pk BK225.out), (pk BK226.out), (pk BK233.out), GW233.out, GE233.out, NB225_233.out, NB233_225.out, NB226_233.out, NB233_226.out, (pb HB)⟩)
 rintro ⟨v231, gb233⟩ w20 ⟨hS_, h0_, h1_, h2_, h3_, h4_, h5_, h6_, h7_, h8_, h9_, h10_, h11_⟩
 replace HO0_2 : Aside0 (Kd.V k60 60 w20 w.heap.size (fun k_ => (P0_2_ k_ ∨ w.heap.size ≤ k_) ∧ some k_ ≠ (v231 : Value).ownBlock ∧ k_ ≠ gb225 ∧ k_ ≠ gb226 ∧ k_ ≠ gb233) (.slice A0_2 l0_2.length c0_2) l0_2) := ⟨h0_⟩
 have HO232 : Aside0 (Kd.R k60 60 w20 w.heap.size (fun k_ => (w.heap.size ≤ k_)) v231 t230) := ⟨h1_⟩
 replace BK225 : Aside0 (w20.heap[gb225]? = some (.cells #[.int .u64 a0_0, .int .u64 a0_1, .slice A0_2 l0_2.length c0_2] 27 (0, 0))) := ⟨h2_⟩
 replace BK226 : Aside0 (w20.heap[gb226]? = some (.cells #[.int .u64 0, .int .u64 0, .slice none 0 0] 27 (0, 0))) := ⟨h3_⟩
 have BK233 : Aside0 (w20.heap[gb233]? = some (.cells #[.int .u64 0, .int .u64 0, .slice none 0 0] 27 (0, 0))) := ⟨h4_⟩
 have GW233 : Aside0 (w.heap.size ≤ gb233) := ⟨h5_⟩
 have GE233 : Aside0 (w.heap.size ≤ gb233) := ⟨h6_⟩
 have NB225_233 : Aside0 (gb225 ≠ gb233) := ⟨h7_⟩
 have NB233_225 : Aside0 (gb233 ≠ gb225) := ⟨h8_⟩
 have NB226_233 : Aside0 (gb226 ≠ gb233) := ⟨h9_⟩
 have NB233_226 : Aside0 (gb233 ≠ gb226) := ⟨h10_⟩
 replace HB : Aside0 (Below w.heap.size w w20) := ⟨h11_⟩
 clear h0_ h1_ h2_ h3_ h4_ h5_ h6_ h7_ h8_ h9_ h10_ h11_
 have hHeld : w20.cell? ⟨gb225, 0, none⟩ = some (.int .u64 a0_0) ∧ w20.cell? ⟨gb225, 1, none⟩ = some (.int .u64 a0_1) ∧ w20.cell? ⟨gb225, 2, none⟩ = some (.slice A0_2 l0_2.length c0_2) := hS_
 obtain ⟨Ao21, co21, eo21⟩ := Kd.R_slice HO232.out
 (first | subst eo21 | (injection eo21 with f1_ f2_ f3_; have f4_ := f1_.symm; have f5_ := f3_.symm; clear f1_ f2_ f3_; subst f4_; subst f5_))
 refine norm_ (a' := ?_) ?_ ?_
 rotate_left
 ·simp only [putAll, Act.put, List.setIfInBounds_toArray, List.set_cons_zero, List.set_cons_succ]
  rfl
 refine one_ (i := 7) (N := none) #[true, true, true, true, true, true, true, true] rfl rfl (one_of HT_.out (by kernel_rfl)) (by decide) (fun K hK => ?_)
 have hs22 : w20.cell? ⟨gb233, 0, none⟩ = some (.int .u64 0) := ce BK233 0
 have hfs22 := blk_frozen BK233.out 0
 have hns22_0 := NB225_233.out
 have hns22_1 := NB226_233.out
 have hms22_0 := NB233_225.out
 have hms22_1 := NB233_226.out
 have hs23 : w20.cell? ⟨gb233, 1, none⟩ = some (.int .u64 0) := ce BK233 1
 have hfs23 := blk_frozen BK233.out 1
 have hns23_0 := NB225_233.out
 have hns23_1 := NB226_233.out
 have hms23_0 := NB233_225.out
 have hms23_1 := NB233_226.out
 have hs24 : w20.cell? ⟨gb233, 2, none⟩ = some (.slice none 0 0) := ce BK233 2
 have hfs24 := blk_frozen BK233.out 2
 have hns24_0 := NB225_233.out
 have hns24_1 := NB226_233.out
 have hms24_0 := NB233_225.out
 have hms24_1 := NB233_226.out
 refine skip_ (w1 := ?_) (by rfl) rfl ?_ ?_
 rotate_left
 ·go_simp
  rfl
 refine hK.out _ _ ⟨((cell_far (p := ⟨gb233, _, none⟩) NB225_233.out _).trans (((cell_far (p := ⟨gb233, _, none⟩) NB225_233.out _).trans (((cell_far (p := ⟨gb233, _, none⟩) NB225_233.out _).trans (hHeld.1)))))), ((cell_far (p := ⟨gb233, _, none⟩) NB225_233.out _).trans (((cell_far (p := ⟨gb233, _, none⟩) NB225_233.out _).trans (((cell_far (p := ⟨gb233, _, none⟩) NB225_233.out _).trans (hHeld.2.1)))))), ((cell_far (p := ⟨gb233, _, none⟩) NB225_233.out _).trans (((cell_far (p := ⟨gb233, _, none⟩) NB225_233.out _).trans (((cell_far (p := ⟨gb233, _, none⟩) NB225_233.out _).trans (hHeld.2.2))))))⟩ (fun hHeld => ?_)
 clear hK K
 refine done_ (done_of HT_.out (by kernel_rfl)) ?_
 have hnb25 := NB233_225.out
 have hnc25 := NB225_233.out
 have hnb26 := NB233_226.out
 have hnc26 := NB226_233.out
 have hcz27_0 := ce BK233 0
 have hcz27_1 := ce BK233 1
 have hcz27_2 := ce BK233 2
 have hfz27_0 := fz BK233 0
 have hfz27_1 := fz BK233 1
 have hfz27_2 := fz BK233 2
 try go_wp2
 go_loopg [6, 10] k (fun kq v6 v10 w' => ∃ (x6_1 : Int) (x10_1 : Int) (x226002_1 : List (S60)) (x234002_1 : List (S60)) (u226002 : Value) (u234002 : Value), v6 = .int .i64 x6_1 ∧ v10 = .int .i64 x10_1 ∧ Aside0 (index_Delete.l0 kq x6_1 (t230.length : Int) x10_1 a0_0 a0_1 x234002_1 = some (r1, r2, r3, r4)) ∧ Aside0 (kq ≤ k) ∧ Aside0 (Kd.V k60 60 w' w.heap.size (fun k_ => (P0_2_ k_ ∨ w.heap.size ≤ k_) ∧ some k_ ≠ (u234002 : Value).ownBlock ∧ k_ ≠ gb225 ∧ k_ ≠ gb226 ∧ k_ ≠ gb233) u226002 x226002_1) ∧ Aside0 (Kd.R k60 60 w' w.heap.size (fun k_ => (w.heap.size ≤ k_)) u234002 x234002_1) ∧ Aside0 (w'.heap[gb225]? = some (.cells #[.int .u64 a0_0, .int .u64 a0_1, u226002] 27 (0, 0))) ∧ Aside0 (w'.heap[gb226]? = some (.cells #[.int .u64 0, .int .u64 0, (.slice none 0 0)] 27 (0, 0))) ∧ Aside0 (w'.heap[gb233]? = some (.cells #[.int .u64 a0_0, .int .u64 a0_1, u234002] 27 (0, 0))) ∧ Aside0 (Below w.heap.size w w'))
 case atStart => exact ⟨(t228), (Int.tmod (wrap64 (t228 + 1)) (t230.length : Int)), (l0_2), (t230), (.slice A0_2 l0_2.length c0_2), (.slice Ao21 t230.length co21), (by first | rfl | (simp; done) | (simp [*]; done)), (by first | rfl | (simp; done) | (simp [*]; done)), H', ⟨Nat.le_refl _⟩, ⟨by refine pv ?_; exact Kd.V_mono (Kd.V_far (p := ⟨gb233, 2, none⟩) (Kd.V_far (p := ⟨gb233, 1, none⟩) (Kd.V_far (p := ⟨gb233, 0, none⟩) (Kd.V_mono HO0_2.out (fun k_ hk => (⟨hk, hk.2.2.2.2⟩ : _ ∧ k_ ≠ gb233))) (fun _ hk => hk.2) (.int .u64 a0_0)) (fun _ hk => hk.2) (.int .u64 a0_1)) (fun _ hk => hk.2) (.slice Ao21 t230.length co21)) (fun _ hk => ⟨hk.1.1, ⟨hk.1.2.1, ⟨hk.1.2.2.1, ⟨hk.1.2.2.2.1, hk.1.2.2.2.2⟩⟩⟩⟩)⟩, ⟨by refine pr ?_; exact Kd.R_mono (Kd.R_far (p := ⟨gb233, 2, none⟩) (Kd.R_far (p := ⟨gb233, 1, none⟩) (Kd.R_far (p := ⟨gb233, 0, none⟩) (Kd.R_types HO232.out BK233.out (by decide)) (fun _ hk => hk.2) (.int .u64 a0_0)) (fun _ hk => hk.2) (.int .u64 a0_1)) (fun _ hk => hk.2) (.slice Ao21 t230.length co21)) (fun _ hk => hk.1)⟩, ⟨by refine pk ?_; refine blk_far ?_ NB225_233.out _; refine pk ?_; refine blk_far ?_ NB225_233.out _; refine pk ?_; refine blk_far ?_ NB225_233.out _; refine pk ?_; exact BK225.out⟩, ⟨by refine pk ?_; refine blk_far ?_ NB226_233.out _; refine pk ?_; refine blk_far ?_ NB226_233.out _; refine pk ?_; refine blk_far ?_ NB226_233.out _; refine pk ?_; exact BK226.out⟩, ⟨by refine pk ?_; refine blk_put (cs := #[.int .u64 a0_0, .int .u64 a0_1, .slice none 0 0]) ?_ 2 _ rfl; refine pk ?_; refine blk_put (cs := #[.int .u64 a0_0, .int .u64 0, .slice none 0 0]) ?_ 1 _ rfl; refine pk ?_; refine blk_put (cs := #[.int .u64 0, .int .u64 0, .slice none 0 0]) ?_ 0 _ rfl; refine pk ?_; exact BK233.out⟩, ⟨pb HB⟩⟩
 case round =>
  clear H'
  try clear c1
  try clear c2
  try clear p2
  try clear c4
  try clear c6
  try clear p6
  try clear c8
  try clear c8b0
  try clear c8b1
  try clear c8b2
  try clear c11
  try clear c14
  try clear c15
  try clear c25
  try clear c26
  try clear hcz12_0 hcz12_1 hcz12_2
  try clear hcz14_0 hcz14_1 hcz14_2
  try clear hcz27_0 hcz27_1 hcz27_2
  try clear hfz12_0 hfz12_1 hfz12_2
  try clear hfz14_0 hfz14_1 hfz14_2
  try clear hfz27_0 hfz27_1 hfz27_2
  obtain ⟨x6_1, x10_1, x226002_1, x234002_1, u226002, u234002, rfl, rfl, HA, HK1, HO_226002, HO_234002, BK225, BK226, BK233, HB⟩ := hrel
  cases gk with
  | zero => exact absurd HA.out (by simp [index_Delete.l0])
  | succ k1 =>
   have H := HA.out
   clear HA
   simp only [index_Delete.l0] at H
   by_cases c28 : 0 ≤ x10_1
   ·rw [if_pos c28] at H
    have c28b0 : decide (0 ≤ x10_1) = true := decide_eq_true c28
    clear c28
    by_cases c29 : x10_1 < (x234002_1.length : Int)
    ·rw [if_pos c29] at H
     have c29b0 : decide (x10_1 < (x234002_1.length : Int)) = true := decide_eq_true c29
     clear c29
     obtain ⟨bq30, hbq30⟩ : ∃ b_ : Bool, b_ = ((rd_T60 x234002_1 x10_1).f0) := ⟨_, rfl⟩
     replace H : (if bq30 = true then ((index_home.f k1 a0_0 a0_1 x234002_1 ((rd_T60 x234002_1 x10_1).f1)).bind fun t236 => (if (t230.length : Int) = 0 then (none) else (if (Int.tmod (wrap64 ((wrap64 (x10_1 - t236)) + (t230.length : Int))) (t230.length : Int)) ≥ (Int.tmod (wrap64 ((wrap64 (x10_1 - x6_1)) + (t230.length : Int))) (t230.length : Int)) then (if 0 ≤ x6_1 then (if x6_1 < (x234002_1.length : Int) then (index_Delete.l0 k1 x10_1 (t230.length : Int) (Int.tmod (wrap64 (x10_1 + 1)) (t230.length : Int)) a0_0 a0_1 (x234002_1.set (x6_1 : Int).toNat (⟨bq30, (rd_T60 x234002_1 x10_1).f1, (rd_T60 x234002_1 x10_1).f2⟩ : S60))) else (none)) else (none)) else (index_Delete.l0 k1 x6_1 (t230.length : Int) (Int.tmod (wrap64 (x10_1 + 1)) (t230.length : Int)) a0_0 a0_1 x234002_1)))) else (if 0 ≤ x6_1 then (if x6_1 < (x234002_1.length : Int) then (some (a0_0, a0_1, (x234002_1.set (x6_1 : Int).toNat (⟨false, (⟨#[]⟩ : ByteArray), 0⟩ : S60)), 0)) else (none)) else (none))) = some (r1, r2, r3, r4) := by rw [← hbq30] at H; exact H
     have Nbq30 := am hbq30
     clear hbq30
     by_cases c31 : bq30 = true
     ·subst c31
      have H1 : ((index_home.f k1 a0_0 a0_1 x234002_1 ((rd_T60 x234002_1 x10_1).f1)).bind fun t236 => (if (t230.length : Int) = 0 then (none) else (if (Int.tmod (wrap64 ((wrap64 (x10_1 - t236)) + (t230.length : Int))) (t230.length : Int)) ≥ (Int.tmod (wrap64 ((wrap64 (x10_1 - x6_1)) + (t230.length : Int))) (t230.length : Int)) then (if 0 ≤ x6_1 then (if x6_1 < (x234002_1.length : Int) then (index_Delete.l0 k1 x10_1 (t230.length : Int) (Int.tmod (wrap64 (x10_1 + 1)) (t230.length : Int)) a0_0 a0_1 (x234002_1.set (x6_1 : Int).toNat (⟨true, (rd_T60 x234002_1 x10_1).f1, (rd_T60 x234002_1 x10_1).f2⟩ : S60))) else (none)) else (none)) else (index_Delete.l0 k1 x6_1 (t230.length : Int) (Int.tmod (wrap64 (x10_1 + 1)) (t230.length : Int)) a0_0 a0_1 x234002_1)))) = some (r1, r2, r3, r4) := by rw [if_pos rfl] at H; exact H
      clear H
      have H := H1
      clear H1
      replace H := Option.bind_eq_some_iff.mp H
      obtain ⟨t236, A320, H⟩ := H
      replace H : (if (t230.length : Int) = 0 then (none) else (if (Int.tmod (wrap64 ((wrap64 (x10_1 - t236)) + (t230.length : Int))) (t230.length : Int)) ≥ (Int.tmod (wrap64 ((wrap64 (x10_1 - x6_1)) + (t230.length : Int))) (t230.length : Int)) then (if 0 ≤ x6_1 then (if x6_1 < (x234002_1.length : Int) then (index_Delete.l0 k1 x10_1 (t230.length : Int) (Int.tmod (wrap64 (x10_1 + 1)) (t230.length : Int)) a0_0 a0_1 (x234002_1.set (x6_1 : Int).toNat (⟨true, (rd_T60 x234002_1 x10_1).f1, (rd_T60 x234002_1 x10_1).f2⟩ : S60))) else (none)) else (none)) else (index_Delete.l0 k1 x6_1 (t230.length : Int) (Int.tmod (wrap64 (x10_1 + 1)) (t230.length : Int)) a0_0 a0_1 x234002_1))) = some (r1, r2, r3, r4) := H
      have A32 := am A320
      clear A320
      by_cases c33 : (t230.length : Int) = 0
      ·rw [if_pos c33] at H
       exact absurd H (by simp)
      ·rw [if_neg c33] at H
       have c33b0 : ((t230.length : Int) == 0) = false := beq_eq_false_iff_ne.mpr c33
       have c33b1 : ((t230.length : Int) != 0) = true := bne_iff_ne.mpr c33
       have c33b2 : ¬ (t230 = []) := fun h_ => c33 (by rw [h_]; rfl)
       by_cases c34 : (Int.tmod (wrap64 ((wrap64 (x10_1 - t236)) + (t230.length : Int))) (t230.length : Int)) ≥ (Int.tmod (wrap64 ((wrap64 (x10_1 - x6_1)) + (t230.length : Int))) (t230.length : Int))
       ·rw [if_pos c34] at H
        have c34b0 : decide ((Int.tmod (wrap64 ((wrap64 (x10_1 - x6_1)) + (t230.length : Int))) (t230.length : Int)) ≤ (Int.tmod (wrap64 ((wrap64 (x10_1 - t236)) + (t230.length : Int))) (t230.length : Int))) = true := decide_eq_true c34
        clear c34
        by_cases c35 : 0 ≤ x6_1
        ·rw [if_pos c35] at H
         have c35b0 : decide (0 ≤ x6_1) = true := decide_eq_true c35
         clear c35
         by_cases c36 : x6_1 < (x234002_1.length : Int)
         ·rw [if_pos c36] at H
          have c36b0 : decide (x6_1 < (x234002_1.length : Int)) = true := decide_eq_true c36
          clear c36
          obtain ⟨y238, hy238⟩ : ∃ y_ : List (S60), y_ = (x234002_1.set (x6_1 : Int).toNat (⟨true, (rd_T60 x234002_1 x10_1).f1, (rd_T60 x234002_1 x10_1).f2⟩ : S60)) := ⟨_, rfl⟩
          replace H : (index_Delete.l0 k1 x10_1 (t230.length : Int) (Int.tmod (wrap64 (x10_1 + 1)) (t230.length : Int)) a0_0 a0_1 y238) = some (r1, r2, r3, r4) := by first | (rw [hy238]; with_reducible exact H) | (have H2_ := (Option.bind_some _ _).symm.trans H; rw [hy238]; with_reducible exact H2_) | (have H2_ := (Option.bind_some _ _).symm.trans H; with_reducible exact H2_) | with_reducible exact H | (rw [hy238]; exact H) | exact H
          have Ny238 := am hy238
          clear hy238
          have H' := am H
          clear H
          have hnb38 := NB233_225.out
          have hnc38 := NB225_233.out
          have hnb39 := NB233_226.out
          have hnc39 := NB226_233.out
          have hcz40_0 := ce BK233 0
          have hcz40_1 := ce BK233 1
          have hcz40_2 := ce BK233 2
          have hfz40_0 := fz BK233 0
          have hfz40_1 := fz BK233 1
          have hfz40_2 := fz BK233 2
          obtain ⟨Ao41, co41, eo41⟩ := Kd.R_slice HO_234002.out
          subst eo41
          have p234 : 0 ≤ (x10_1 : Int) := of_decide_eq_true (by first | (with_reducible assumption) | assumption)
          have q234 : x10_1 < (x234002_1.length : Int) := of_decide_eq_true (by first | (with_reducible assumption) | assumption)
          obtain ⟨ad234, e234, hx234_0, hx234_1, hx234_2⟩ := at_T60 (Kd.R_reads' HO_234002.out).2.2 x10_1 p234 q234
          (try rw [← Nbq30.out] at hx234_0)
          cases e234
          replace p234 := eq_true p234
          replace q234 := eq_true q234
          try go_wp2
          replace HO_226002 := am (Kd.V_drew HO_226002.out)
          replace HO_234002 := am (Kd.R_drew HO_234002.out)
          replace BK225 := am (blk_drew BK225.out)
          replace BK226 := am (blk_drew BK226.out)
          replace BK233 := am (blk_drew BK233.out)
          replace HB := am (below_drew1 HB.out)
          have p235 : 0 ≤ (x10_1 : Int) := of_decide_eq_true (by first | (with_reducible assumption) | assumption)
          have q235 : x10_1 < (x234002_1.length : Int) := of_decide_eq_true (by first | (with_reducible assumption) | assumption)
          obtain ⟨ad235, e235, hx235_0, hx235_1, hx235_2⟩ := at_T60 (Kd.R_reads' HO_234002.out).2.2 x10_1 p235 q235
          (try rw [← Nbq30.out] at hx235_0)
          obtain rfl : ad234 = ad235 := (by injection e235)
          replace p235 := eq_true p235
          replace q235 := eq_true q235
          refine start_ (n := 9) (S := fun w' => w'.cell? ⟨gb233, 0, none⟩ = some (.int .u64 a0_0) ∧ w'.cell? ⟨gb233, 1, none⟩ = some (.int .u64 a0_1) ∧ w'.cell? ⟨gb233, 2, none⟩ = some (.slice (some ad234) x234002_1.length co41) ∧ w'.cell? (ad234.add ((x10_1).toNat * 3)) = some (.bool (true)) ∧ w'.cell? ⟨(ad234.add ((x10_1).toNat * 3)).block, (ad234.add ((x10_1).toNat * 3)).off + 1, none⟩ = some (.string ((rd_T60 x234002_1 x10_1).f1)) ∧ w'.cell? ⟨(ad234.add ((x10_1).toNat * 3)).block, (ad234.add ((x10_1).toNat * 3)).off + 2, none⟩ = some (.int .i64 ((rd_T60 x234002_1 x10_1).f2))) (ds := []) #[false, false, false, false, false, false, false, false, false] (by kernel_rfl) rfl rfl ⟨ce BK233 0, ce BK233 1, ce BK233 2, hx235_0, hx235_1, hx235_2⟩ (fun hHeld => ?_); refine with_tabW index_Delete.tab11 index_Delete.bits11 (fun HT_ HW_ => ?_)
          generalize wr.drew = w42 at HO_226002 HO_234002 BK225 BK226 BK233 HB hx235_0 hx235_1 hx235_2 hHeld ⊢
          refine pu 1 ?_
          refine pu 3 ?_
          refine ta 0 hHeld ?_
          refine ta 2 hHeld ?_
          refine pu 4 ?_
          refine pu 5 ?_
          refine ta 6 hHeld ?_
          refine on1 7 (fun K hK => ?_)
          refine gs Try.func29 #[.agg #[.int .u64 a0_0, .int .u64 a0_1, .slice (some ad234) x234002_1.length co41], .string ((rd_T60 x234002_1 x10_1).f1)] ?_
          with_reducible refine (index_home.calls k1 a0_0 a0_1 _ _ x234002_1 ((rd_T60 x234002_1 x10_1).f1) t236 _ ?side1 ?side2 A32.out).mono ?_
          (case side1 => repeat (first | exact (Kd.R_reads' HO_234002.out).2.2 | (with_reducible refine Kd.C_alloc ?_ _) | (with_reducible refine Kd.C_drewN ?_ _) | (with_reducible refine Kd.C_drew ?_)))
          (case side2 => exact (Kd.R_reads' HO_234002.out).2.1)
          rintro e w43 ⟨rfl, hb⟩
          have HS3_ := (hb.cell (World.block_lt_of_cell? _ _ (hHeld.2.2.2.1))).trans (hHeld.2.2.2.1)
          have HS4_ := (hb.cell (World.block_lt_of_cell? _ _ (hHeld.2.2.2.2.1))).trans (hHeld.2.2.2.2.1)
          have HS5_ := (hb.cell (World.block_lt_of_cell? _ _ (hHeld.2.2.2.2.2))).trans (hHeld.2.2.2.2.2)
          refine ⟨_, rfl, ?_⟩
          replace HO_226002 := am (Kd.V_below (pv HO_226002.out) hb)
          replace HO_234002 := am (Kd.R_below (pr HO_234002.out) hb)
          replace BK225 := am (blk_below (pk BK225.out) hb)
          replace BK226 := am (blk_below (pk BK226.out) hb)
          replace BK233 := am (blk_below (pk BK233.out) hb)
          replace HB := am (below_step (pb HB) hb)
          (try clear hb)
          (try clear hb2)
          (try clear hk)
          (try clear hi)
          refine hK.out _ _ ⟨ce BK233 0, ce BK233 1, ce BK233 2, HS3_, HS4_, HS5_⟩ (fun hHeld => ?_)
          clear hK K
          refine nm ?_
          refine pu 8 ?_
          refine done_ (done_of HT_.out (by kernel_rfl)) ?_
          try go_wp2
          replace HO_226002 := am (Kd.V_drew HO_226002.out)
          replace HO_234002 := am (Kd.R_drew HO_234002.out)
          replace BK225 := am (blk_drew BK225.out)
          replace BK226 := am (blk_drew BK226.out)
          replace BK233 := am (blk_drew BK233.out)
          replace HB := am (below_drew1 HB.out)
          refine start_ (n := 15) (S := fun w' => True) (ds := []) #[false, false, false, false, false, false, false, false, false, false, false, false, false, false, false] (by kernel_rfl) rfl rfl trivial (fun hHeld => ?_); refine with_tabW index_Delete.tab12 index_Delete.bits12 (fun HT_ HW_ => ?_)
          generalize w43.drew = w44 at HO_226002 HO_234002 BK225 BK226 BK233 HB hHeld ⊢
          refine pu 0 ?_
          refine pu 1 ?_
          refine pu 2 ?_
          refine pu 3 ?_
          refine pu 4 ?_
          refine pu 5 ?_
          refine pu 6 ?_
          refine pu 7 ?_
          refine pu 8 ?_
          refine pu 9 ?_
          refine pu 10 ?_
          refine pu 11 ?_
          refine pu 12 ?_
          refine pu 13 ?_
          refine pu 14 ?_
          refine done_ (done_of HT_.out (by kernel_rfl)) ?_
          try go_wp2
          replace HO_226002 := am (Kd.V_drew HO_226002.out)
          replace HO_234002 := am (Kd.R_drew HO_234002.out)
          replace BK225 := am (blk_drew BK225.out)
          replace BK226 := am (blk_drew BK226.out)
          replace BK233 := am (blk_drew BK233.out)
          replace HB := am (below_drew1 HB.out)
          have p237 : 0 ≤ (x10_1 : Int) := of_decide_eq_true (by first | (with_reducible assumption) | assumption)
          have q237 : x10_1 < (x234002_1.length : Int) := of_decide_eq_true (by first | (with_reducible assumption) | assumption)
          obtain ⟨ad237, e237, hx237_0, hx237_1, hx237_2⟩ := at_T60 (Kd.R_reads' HO_234002.out).2.2 x10_1 p237 q237
          (try rw [← Nbq30.out] at hx237_0)
          obtain rfl : ad234 = ad237 := (by injection e237)
          replace p237 := eq_true p237
          replace q237 := eq_true q237
          have p37 : 0 ≤ (x6_1 : Int) := of_decide_eq_true (by first | (with_reducible assumption) | assumption)
          have q37 : (x6_1 : Int) < ((x234002_1.length : Int) : Int) := of_decide_eq_true (by first | (with_reducible assumption) | assumption)
          obtain ⟨go37, co37, eo37, gb37, gl37, cl37, HG37⟩ := Kd.R_form HO_234002.out (by omega)
          (first | cases eo37 | (injection eo37 with ea_ en_ ec_; (first | subst ea_ | (injection ea_ with ea_; subst ea_)); subst ec_; clear en_))
          have GB37 := am gb37
          have GG37 := am HG37
          clear gb37 gl37 HG37
          (first | simp only [add_plain] at hx234_0 | skip)
          (first | simp only [add_plain] at hx234_1 | skip)
          (first | simp only [add_plain] at hx234_2 | skip)
          (first | simp only [add_plain] at hx235_0 | skip)
          (first | simp only [add_plain] at hx235_1 | skip)
          (first | simp only [add_plain] at hx235_2 | skip)
          (first | simp only [add_plain] at hx237_0 | skip)
          (first | simp only [add_plain] at hx237_1 | skip)
          (first | simp only [add_plain] at hx237_2 | skip)
          obtain ⟨ce37, hcl37, hM37, hcc37, hfr37⟩ := Kd.R_elem HO_234002.out z60 (x6_1 : Int) p37 q37
          obtain rfl := k60_openM hM37
          have hx37_0 : World.cell? _ ⟨go37, (x6_1 : Int).toNat * 3, none⟩ = some (.bool ((rd_T60 x234002_1 x6_1).f0)) := hcc37 0 _ rfl
          have hx37_1 : World.cell? _ ⟨go37, (x6_1 : Int).toNat * 3 + 1, none⟩ = some (.string ((rd_T60 x234002_1 x6_1).f1)) := hcc37 1 _ rfl
          have hx37_2 : World.cell? _ ⟨go37, (x6_1 : Int).toNat * 3 + 2, none⟩ = some (.int .i64 ((rd_T60 x234002_1 x6_1).f2)) := hcc37 2 _ rfl
          have hf37_0 : World.frozen? _ ⟨go37, (x6_1 : Int).toNat * 3, none⟩ = false := hfr37 0
          have hf37_1 : World.frozen? _ ⟨go37, (x6_1 : Int).toNat * 3 + 1, none⟩ = false := hfr37 1
          have hf37_2 : World.frozen? _ ⟨go37, (x6_1 : Int).toNat * 3 + 2, none⟩ = false := hfr37 2
          clear hcl37 hcc37 hfr37 hM37
          replace p37 := eq_true p37
          replace q37 := eq_true q37
          obtain ⟨ce46, hcl46, hM46, hcc46, hfr46⟩ := Kd.R_elem HO_234002.out z60 (x6_1 : Int) (of_decide_eq_true (by first | (with_reducible assumption) | assumption)) (by have h_ : (x6_1 : Int) < ((x234002_1.length : Int) : Int) := of_decide_eq_true (by first | (with_reducible assumption) | assumption); first | exact h_ | (have e_ := (Kd.R_reads' HO_234002.out).1; omega) | simpa using h_)
          obtain rfl := k60_openM hM46
          have HP46 := (Kd.R_seg HO_234002.out (x6_1 : Int) (of_decide_eq_true (by first | (with_reducible assumption) | assumption)) (by have h_ : (x6_1 : Int) < ((x234002_1.length : Int) : Int) := of_decide_eq_true (by first | (with_reducible assumption) | assumption); first | exact h_ | (have e_ := (Kd.R_reads' HO_234002.out).1; omega) | simpa using h_) (seg := [.bool true, .string ((rd_T60 x234002_1 x10_1).f1), .int .i64 ((rd_T60 x234002_1 x10_1).f2)]) (j := 0) hcl46 hcc46 (show 3 ≤ 3 from by decide) (x' := (⟨true, (rd_T60 x234002_1 x10_1).f1, (rd_T60 x234002_1 x10_1).f2⟩ : S60)) (k60_mkM _ _ _ (⟨true, (rd_T60 x234002_1 x10_1).f1, (rd_T60 x234002_1 x10_1).f2⟩ : S60) ) (fun _ hk => hk)).1
          rw [← Ny238.out] at HP46
          have HQ46 := am HP46
          clear hcl46 hcc46 hfr46 hM46 HP46
          refine start_ (n := 10) (S := fun w' => w'.cell? ⟨gb233, 0, none⟩ = some (.int .u64 a0_0) ∧ w'.cell? ⟨gb233, 1, none⟩ = some (.int .u64 a0_1) ∧ w'.cell? ⟨gb233, 2, none⟩ = some (.slice (some ⟨go37, 0, none⟩) x234002_1.length co41) ∧ w'.cell? ⟨go37, ((x10_1).toNat * 3), none⟩ = some (.bool (true)) ∧ w'.cell? ⟨go37, ((x10_1).toNat * 3) + 1, none⟩ = some (.string ((rd_T60 x234002_1 x10_1).f1)) ∧ w'.cell? ⟨go37, ((x10_1).toNat * 3) + 2, none⟩ = some (.int .i64 ((rd_T60 x234002_1 x10_1).f2))) (ds := [9]) #[false, false, false, false, false, false, false, false, false, false] (by kernel_rfl) rfl rfl ⟨ce BK233 0, ce BK233 1, ce BK233 2, hx237_0, hx237_1, hx237_2⟩ (fun hHeld => ?_); refine with_tabW index_Delete.tab13 index_Delete.bits13 (fun HT_ HW_ => ?_)
          generalize w44.drew = w45 at HO_226002 HO_234002 BK225 BK226 BK233 HB GG37 HQ46 hf37_0 hf37_1 hf37_2 hx234_0 hx234_1 hx234_2 hx235_0 hx235_1 hx235_2 hx237_0 hx237_1 hx237_2 hx37_0 hx37_1 hx37_2 hHeld ⊢
          refine pu 0 ?_
          refine pu 2 ?_
          refine pu 3 ?_
          refine pu 5 ?_
          refine ta 1 hHeld ?_
          refine ta 4 hHeld ?_
          refine pu 6 ?_
          refine ta 7 hHeld ?_
          refine pu 8 ?_
          refine last_ (i := 9) (N := none) #[true, true, true, true, true, true, true, true, true, true] rfl rfl (one_of HT_.out (by kernel_rfl)) (by decide) (fun K hK => ?_)
          refine skip_ (w1 := ?_) (by rfl) rfl ?_ ?_
          rotate_left
          ·go_simp
           rfl
          refine hK.out _ _ ?_
          clear hK K
          refine done_ (done_of HT_.out (by kernel_rfl)) ?_
          try go_wp2
          go_roundg k1
          case measure => have := HK1.out; omega
          case rel => exact ⟨(x10_1), (Int.tmod (wrap64 (x10_1 + 1)) (t230.length : Int)), (x226002_1), (y238), (u226002), (.slice (some ⟨go37, 0, none⟩) x234002_1.length co41), (by first | rfl | (simp; done) | (simp [*]; done)), (by first | rfl | (simp; done) | (simp [*]; done)), H', ⟨by have := HK1.out; omega⟩, ⟨by refine pv ?_; exact Kd.V_mono (Kd.V_far (p := ⟨go37, (x6_1 : Int).toNat * 3 + 2, none⟩) (Kd.V_far (p := ⟨go37, (x6_1 : Int).toNat * 3 + 1, none⟩) (Kd.V_far (p := ⟨go37, (x6_1 : Int).toNat * 3, none⟩) (Kd.V_mono HO_226002.out (fun k_ hk => (⟨hk, fun e_ => hk.2.1 (by rw [e_]; rfl)⟩ : _ ∧ k_ ≠ go37))) (fun _ hk => hk.2) (.bool true)) (fun _ hk => hk.2) (.string ((rd_T60 x234002_1 x10_1).f1))) (fun _ hk => hk.2) (.int .i64 ((rd_T60 x234002_1 x10_1).f2))) (fun _ hk => ⟨hk.1.1, ⟨hk.1.2.1, ⟨hk.1.2.2.1, ⟨hk.1.2.2.2.1, hk.1.2.2.2.2⟩⟩⟩⟩)⟩, ⟨pr HQ46.out⟩, ⟨by refine pk ?_; refine blk_far ?_ (by have h_ := Kd.R_ne HO_234002.out BK225.out (by decide); intro e_; exact h_ (by rw [e_]; rfl)) _; refine pk ?_; refine blk_far ?_ (by have h_ := Kd.R_ne HO_234002.out BK225.out (by decide); intro e_; exact h_ (by rw [e_]; rfl)) _; refine pk ?_; refine blk_far ?_ (by have h_ := Kd.R_ne HO_234002.out BK225.out (by decide); intro e_; exact h_ (by rw [e_]; rfl)) _; refine pk ?_; exact BK225.out⟩, ⟨by refine pk ?_; refine blk_far ?_ (by have h_ := Kd.R_ne HO_234002.out BK226.out (by decide); intro e_; exact h_ (by rw [e_]; rfl)) _; refine pk ?_; refine blk_far ?_ (by have h_ := Kd.R_ne HO_234002.out BK226.out (by decide); intro e_; exact h_ (by rw [e_]; rfl)) _; refine pk ?_; refine blk_far ?_ (by have h_ := Kd.R_ne HO_234002.out BK226.out (by decide); intro e_; exact h_ (by rw [e_]; rfl)) _; refine pk ?_; exact BK226.out⟩, ⟨by refine pk ?_; refine blk_far ?_ (by have h_ := Kd.R_ne HO_234002.out BK233.out (by decide); intro e_; exact h_ (by rw [e_]; rfl)) _; refine pk ?_; refine blk_far ?_ (by have h_ := Kd.R_ne HO_234002.out BK233.out (by decide); intro e_; exact h_ (by rw [e_]; rfl)) _; refine pk ?_; refine blk_far ?_ (by have h_ := Kd.R_ne HO_234002.out BK233.out (by decide); intro e_; exact h_ (by rw [e_]; rfl)) _; refine pk ?_; exact BK233.out⟩, ⟨by repeat (first | (with_reducible first | exact HB.out | apply below_alloc | apply pw_below_drewN | apply below_drew1 | refine below_set ?_ GB37.out | refine below_set ?_ GB37.out | refine below_set ?_ GB37.out | refine below_set ?_ GE225.out | refine below_set ?_ GE226.out | refine below_set ?_ GE233.out) | exact HB.out)⟩⟩
         ·rw [if_neg c36] at H
          exact absurd H (by simp)
        ·rw [if_neg c35] at H
         exact absurd H (by simp)
       ·rw [if_neg c34] at H
        have c34b0 : decide ((Int.tmod (wrap64 ((wrap64 (x10_1 - x6_1)) + (t230.length : Int))) (t230.length : Int)) ≤ (Int.tmod (wrap64 ((wrap64 (x10_1 - t236)) + (t230.length : Int))) (t230.length : Int))) = false := decide_eq_false c34
        clear c34
        have H' := am H
        clear H
        have hnb47 := NB233_225.out
        have hnc47 := NB225_233.out
        have hnb48 := NB233_226.out
        have hnc48 := NB226_233.out
        have hcz49_0 := ce BK233 0
        have hcz49_1 := ce BK233 1
        have hcz49_2 := ce BK233 2
        have hfz49_0 := fz BK233 0
        have hfz49_1 := fz BK233 1
        have hfz49_2 := fz BK233 2
        obtain ⟨Ao50, co50, eo50⟩ := Kd.R_slice HO_234002.out
        subst eo50
        have p234 : 0 ≤ (x10_1 : Int) := of_decide_eq_true (by first | (with_reducible assumption) | assumption)
        have q234 : x10_1 < (x234002_1.length : Int) := of_decide_eq_true (by first | (with_reducible assumption) | assumption)
        obtain ⟨ad234, e234, hx234_0, hx234_1, hx234_2⟩ := at_T60 (Kd.R_reads' HO_234002.out).2.2 x10_1 p234 q234
        (try rw [← Nbq30.out] at hx234_0)
        cases e234
        replace p234 := eq_true p234
        replace q234 := eq_true q234
        try go_wp2
        replace HO_226002 := am (Kd.V_drew HO_226002.out)
        replace HO_234002 := am (Kd.R_drew HO_234002.out)
        replace BK225 := am (blk_drew BK225.out)
        replace BK226 := am (blk_drew BK226.out)
        replace BK233 := am (blk_drew BK233.out)
        replace HB := am (below_drew1 HB.out)
        have p235 : 0 ≤ (x10_1 : Int) := of_decide_eq_true (by first | (with_reducible assumption) | assumption)
        have q235 : x10_1 < (x234002_1.length : Int) := of_decide_eq_true (by first | (with_reducible assumption) | assumption)
        obtain ⟨ad235, e235, hx235_0, hx235_1, hx235_2⟩ := at_T60 (Kd.R_reads' HO_234002.out).2.2 x10_1 p235 q235
        (try rw [← Nbq30.out] at hx235_0)
        obtain rfl : ad234 = ad235 := (by injection e235)
        replace p235 := eq_true p235
        replace q235 := eq_true q235
        refine start_ (n := 9) (S := fun w' => w'.cell? ⟨gb233, 0, none⟩ = some (.int .u64 a0_0) ∧ w'.cell? ⟨gb233, 1, none⟩ = some (.int .u64 a0_1) ∧ w'.cell? ⟨gb233, 2, none⟩ = some (.slice (some ad234) x234002_1.length co50) ∧ w'.cell? (ad234.add ((x10_1).toNat * 3)) = some (.bool (true)) ∧ w'.cell? ⟨(ad234.add ((x10_1).toNat * 3)).block, (ad234.add ((x10_1).toNat * 3)).off + 1, none⟩ = some (.string ((rd_T60 x234002_1 x10_1).f1)) ∧ w'.cell? ⟨(ad234.add ((x10_1).toNat * 3)).block, (ad234.add ((x10_1).toNat * 3)).off + 2, none⟩ = some (.int .i64 ((rd_T60 x234002_1 x10_1).f2))) (ds := []) #[false, false, false, false, false, false, false, false, false] (by kernel_rfl) rfl rfl ⟨ce BK233 0, ce BK233 1, ce BK233 2, hx235_0, hx235_1, hx235_2⟩ (fun hHeld => ?_); refine with_tabW index_Delete.tab11 index_Delete.bits11 (fun HT_ HW_ => ?_)
        generalize wr.drew = w51 at HO_226002 HO_234002 BK225 BK226 BK233 HB hx235_0 hx235_1 hx235_2 hHeld ⊢
        refine pu 1 ?_
        refine pu 3 ?_
        refine ta 0 hHeld ?_
        refine ta 2 hHeld ?_
        refine pu 4 ?_
        refine pu 5 ?_
        refine ta 6 hHeld ?_
        refine on1 7 (fun K hK => ?_)
        refine gs Try.func29 #[.agg #[.int .u64 a0_0, .int .u64 a0_1, .slice (some ad234) x234002_1.length co50], .string ((rd_T60 x234002_1 x10_1).f1)] ?_
        with_reducible refine (index_home.calls k1 a0_0 a0_1 _ _ x234002_1 ((rd_T60 x234002_1 x10_1).f1) t236 _ ?side1 ?side2 A32.out).mono ?_
        (case side1 => repeat (first | exact (Kd.R_reads' HO_234002.out).2.2 | (with_reducible refine Kd.C_alloc ?_ _) | (with_reducible refine Kd.C_drewN ?_ _) | (with_reducible refine Kd.C_drew ?_)))
        (case side2 => exact (Kd.R_reads' HO_234002.out).2.1)
        rintro e w52 ⟨rfl, hb⟩
        have HS3_ := (hb.cell (World.block_lt_of_cell? _ _ (hHeld.2.2.2.1))).trans (hHeld.2.2.2.1)
        have HS4_ := (hb.cell (World.block_lt_of_cell? _ _ (hHeld.2.2.2.2.1))).trans (hHeld.2.2.2.2.1)
        have HS5_ := (hb.cell (World.block_lt_of_cell? _ _ (hHeld.2.2.2.2.2))).trans (hHeld.2.2.2.2.2)
        refine ⟨_, rfl, ?_⟩
        replace HO_226002 := am (Kd.V_below (pv HO_226002.out) hb)
        replace HO_234002 := am (Kd.R_below (pr HO_234002.out) hb)
        replace BK225 := am (blk_below (pk BK225.out) hb)
        replace BK226 := am (blk_below (pk BK226.out) hb)
        replace BK233 := am (blk_below (pk BK233.out) hb)
        replace HB := am (below_step (pb HB) hb)
        (try clear hb)
        (try clear hb2)
        (try clear hk)
        (try clear hi)
        refine hK.out _ _ ⟨ce BK233 0, ce BK233 1, ce BK233 2, HS3_, HS4_, HS5_⟩ (fun hHeld => ?_)
        clear hK K
        refine nm ?_
        refine pu 8 ?_
        refine done_ (done_of HT_.out (by kernel_rfl)) ?_
        try go_wp2
        replace HO_226002 := am (Kd.V_drew HO_226002.out)
        replace HO_234002 := am (Kd.R_drew HO_234002.out)
        replace BK225 := am (blk_drew BK225.out)
        replace BK226 := am (blk_drew BK226.out)
        replace BK233 := am (blk_drew BK233.out)
        replace HB := am (below_drew1 HB.out)
        refine start_ (n := 15) (S := fun w' => True) (ds := []) #[false, false, false, false, false, false, false, false, false, false, false, false, false, false, false] (by kernel_rfl) rfl rfl trivial (fun hHeld => ?_); refine with_tabW index_Delete.tab12 index_Delete.bits12 (fun HT_ HW_ => ?_)
        generalize w52.drew = w53 at HO_226002 HO_234002 BK225 BK226 BK233 HB hHeld ⊢
        refine pu 0 ?_
        refine pu 1 ?_
        refine pu 2 ?_
        refine pu 3 ?_
        refine pu 4 ?_
        refine pu 5 ?_
        refine pu 6 ?_
        refine pu 7 ?_
        refine pu 8 ?_
        refine pu 9 ?_
        refine pu 10 ?_
        refine pu 11 ?_
        refine pu 12 ?_
        refine pu 13 ?_
        refine pu 14 ?_
        refine done_ (done_of HT_.out (by kernel_rfl)) ?_
        try go_wp2
        go_roundg k1
        case measure => have := HK1.out; omega
        case rel => exact ⟨(x6_1), (Int.tmod (wrap64 (x10_1 + 1)) (t230.length : Int)), (x226002_1), (x234002_1), (u226002), (.slice (some ad234) x234002_1.length co50), (by first | rfl | (simp; done) | (simp [*]; done)), (by first | rfl | (simp; done) | (simp [*]; done)), H', ⟨by have := HK1.out; omega⟩, ⟨pv HO_226002.out⟩, ⟨pr HO_234002.out⟩, ⟨pk BK225.out⟩, ⟨pk BK226.out⟩, ⟨pk BK233.out⟩, ⟨pb HB⟩⟩
     ·replace c31 := Bool.eq_false_iff.mpr c31
      subst c31
      have H1 : (if 0 ≤ x6_1 then (if x6_1 < (x234002_1.length : Int) then (some (a0_0, a0_1, (x234002_1.set (x6_1 : Int).toNat (⟨false, (⟨#[]⟩ : ByteArray), 0⟩ : S60)), 0)) else (none)) else (none)) = some (r1, r2, r3, r4) := by rw [if_neg (show ¬ (false = true) by decide)] at H; exact H
      clear H
      have H := H1
      clear H1
      by_cases c54 : 0 ≤ x6_1
      ·rw [if_pos c54] at H
       have c54b0 : decide (0 ≤ x6_1) = true := decide_eq_true c54
       clear c54
       by_cases c55 : x6_1 < (x234002_1.length : Int)
       ·rw [if_pos c55] at H
        have c55b0 : decide (x6_1 < (x234002_1.length : Int)) = true := decide_eq_true c55
        clear c55
        obtain ⟨y239, hy239⟩ : ∃ y_ : List (S60), y_ = (x234002_1.set (x6_1 : Int).toNat (⟨false, (⟨#[]⟩ : ByteArray), 0⟩ : S60)) := ⟨_, rfl⟩
        replace H : (some (a0_0, a0_1, y239, 0)) = some (r1, r2, r3, r4) := by first | (rw [hy239]; with_reducible exact H) | (have H2_ := (Option.bind_some _ _).symm.trans H; rw [hy239]; with_reducible exact H2_) | (have H2_ := (Option.bind_some _ _).symm.trans H; with_reducible exact H2_) | with_reducible exact H | (rw [hy239]; exact H) | exact H
        have Ny239 := am hy239
        clear hy239
        simp only [Option.some.injEq, Prod.mk.injEq] at H
        obtain ⟨rfl, rfl, rfl, rfl⟩ := H
        have hnb57 := NB233_225.out
        have hnc57 := NB225_233.out
        have hnb58 := NB233_226.out
        have hnc58 := NB226_233.out
        have hcz59_0 := ce BK233 0
        have hcz59_1 := ce BK233 1
        have hcz59_2 := ce BK233 2
        have hfz59_0 := fz BK233 0
        have hfz59_1 := fz BK233 1
        have hfz59_2 := fz BK233 2
        obtain ⟨Ao60, co60, eo60⟩ := Kd.R_slice HO_234002.out
        subst eo60
        have p234 : 0 ≤ (x10_1 : Int) := of_decide_eq_true (by first | (with_reducible assumption) | assumption)
        have q234 : x10_1 < (x234002_1.length : Int) := of_decide_eq_true (by first | (with_reducible assumption) | assumption)
        obtain ⟨ad234, e234, hx234_0, hx234_1, hx234_2⟩ := at_T60 (Kd.R_reads' HO_234002.out).2.2 x10_1 p234 q234
        (try rw [← Nbq30.out] at hx234_0)
        cases e234
        replace p234 := eq_true p234
        replace q234 := eq_true q234
        have p56 : 0 ≤ (x6_1 : Int) := of_decide_eq_true (by first | (with_reducible assumption) | assumption)
        have q56 : (x6_1 : Int) < ((x234002_1.length : Int) : Int) := of_decide_eq_true (by first | (with_reducible assumption) | assumption)
        obtain ⟨go56, co56, eo56, gb56, gl56, cl56, HG56⟩ := Kd.R_form HO_234002.out (by omega)
        (first | cases eo56 | (injection eo56 with ea_ en_ ec_; (first | subst ea_ | (injection ea_ with ea_; subst ea_)); subst ec_; clear en_))
        have GB56 := am gb56
        have GG56 := am HG56
        clear gb56 gl56 HG56
        (first | simp only [add_plain] at hx234_0 | skip)
        (first | simp only [add_plain] at hx234_1 | skip)
        (first | simp only [add_plain] at hx234_2 | skip)
        (first | simp only [add_plain] at hx235_0 | skip)
        (first | simp only [add_plain] at hx235_1 | skip)
        (first | simp only [add_plain] at hx235_2 | skip)
        obtain ⟨ce56, hcl56, hM56, hcc56, hfr56⟩ := Kd.R_elem HO_234002.out z60 (x6_1 : Int) p56 q56
        obtain rfl := k60_openM hM56
        have hx56_0 : wr.cell? ⟨go56, (x6_1 : Int).toNat * 3, none⟩ = some (.bool ((rd_T60 x234002_1 x6_1).f0)) := hcc56 0 _ rfl
        have hx56_1 : wr.cell? ⟨go56, (x6_1 : Int).toNat * 3 + 1, none⟩ = some (.string ((rd_T60 x234002_1 x6_1).f1)) := hcc56 1 _ rfl
        have hx56_2 : wr.cell? ⟨go56, (x6_1 : Int).toNat * 3 + 2, none⟩ = some (.int .i64 ((rd_T60 x234002_1 x6_1).f2)) := hcc56 2 _ rfl
        have hf56_0 : wr.frozen? ⟨go56, (x6_1 : Int).toNat * 3, none⟩ = false := hfr56 0
        have hf56_1 : wr.frozen? ⟨go56, (x6_1 : Int).toNat * 3 + 1, none⟩ = false := hfr56 1
        have hf56_2 : wr.frozen? ⟨go56, (x6_1 : Int).toNat * 3 + 2, none⟩ = false := hfr56 2
        clear hcl56 hcc56 hfr56 hM56
        replace p56 := eq_true p56
        replace q56 := eq_true q56
        have HX61 := am (show Kd.R k60 60 wr w.heap.size (fun k_ => (w.heap.size ≤ k_)) (.slice (some ⟨go56, 0, none⟩) x234002_1.length co60) x234002_1 from (pr HO_234002.out))
        obtain ⟨ce61, hcl61, hM61, hcc61, hfr61⟩ := Kd.R_elem HX61.out z60 (x6_1 : Int) (of_decide_eq_true (by first | (with_reducible assumption) | assumption)) (by have h_ : (x6_1 : Int) < ((x234002_1.length : Int) : Int) := of_decide_eq_true (by first | (with_reducible assumption) | assumption); first | exact h_ | (have e_ := (Kd.R_reads' HO_234002.out).1; omega) | simpa using h_)
        obtain rfl := k60_openM hM61
        have HP61 := Kd.R_seg HX61.out (x6_1 : Int) (of_decide_eq_true (by first | (with_reducible assumption) | assumption)) (by have h_ : (x6_1 : Int) < ((x234002_1.length : Int) : Int) := of_decide_eq_true (by first | (with_reducible assumption) | assumption); first | exact h_ | (have e_ := (Kd.R_reads' HO_234002.out).1; omega) | simpa using h_) (seg := [.bool false, .string (⟨#[]⟩ : ByteArray), .int .i64 0]) (j := 0) hcl61 hcc61 (show 3 ≤ 3 from by decide) (x' := (⟨false, (⟨#[]⟩ : ByteArray), 0⟩ : S60)) (k60_mkM _ _ _ (⟨false, (⟨#[]⟩ : ByteArray), 0⟩ : S60) ) (fun _ hk => hk)
        have hx61_0 := hcc61 0 _ rfl
        (try simp only [show (k60).sz = 3 from rfl, Nat.mul_one, Nat.add_zero] at hx61_0)
        have hf61_0 := hfr61 0
        (try simp only [show (k60).sz = 3 from rfl, Nat.mul_one, Nat.add_zero] at hf61_0)
        have hx61_1 := hcc61 1 _ rfl
        (try simp only [show (k60).sz = 3 from rfl, Nat.mul_one, Nat.add_zero] at hx61_1)
        have hf61_1 := hfr61 1
        (try simp only [show (k60).sz = 3 from rfl, Nat.mul_one, Nat.add_zero] at hf61_1)
        have hx61_2 := hcc61 2 _ rfl
        (try simp only [show (k60).sz = 3 from rfl, Nat.mul_one, Nat.add_zero] at hx61_2)
        have hf61_2 := hfr61 2
        (try simp only [show (k60).sz = 3 from rfl, Nat.mul_one, Nat.add_zero] at hf61_2)
        clear hcl61 hcc61 hfr61 hM61
        go_wp2_with (first | ((with_reducible refine gate_store (t := 60) (p := 85) rfl ?_); refine store_event (t := 60) (p := 85) (v := ?vo_w62) (w1 := (((wr.setCell ⟨go56, (x6_1 : Int).toNat * 3, none⟩ (.bool false)).setCell ⟨go56, (x6_1 : Int).toNat * 3 + 1, none⟩ (.string (⟨#[]⟩ : ByteArray))).setCell ⟨go56, (x6_1 : Int).toNat * 3 + 2, none⟩ (.int .i64 0))) ?hg ?ho ?hn ?hr ?_; (case ho => rfl); (case hg => rfl); (case hn => rfl); (case hr => first | (go_simp; done) | (go_simp; rfl)); intro w62 hw; have hg : wr.grownBy w62 (some go56) := (by rw [hw]; exact HP61.2); have hp_ : Kd.R k60 60 w62 w.heap.size (fun k_ => (w.heap.size ≤ k_)) (.slice (some ⟨go56, 0, none⟩) x234002_1.length co60) y239 := (by rw [hw, Ny239.out]; exact HP61.1); clear HP61; have n0_ := am (Kd.V_afterv (v := (.slice (some ⟨go56, 0, none⟩) x234002_1.length co60)) (v1 := (.slice (some ⟨go56, 0, none⟩) x234002_1.length co60)) (ok := (fun k_ => (P0_2_ k_ ∨ w.heap.size ≤ k_) ∧ k_ ≠ gb225 ∧ k_ ≠ gb226 ∧ k_ ≠ gb233)) (pv (Kd.V_mono HO_226002.out (fun _ hk => ⟨⟨hk.1, ⟨hk.2.2.1, ⟨hk.2.2.2.1, hk.2.2.2.2⟩⟩⟩, hk.2.1⟩))) hg (.inl rfl)); have n1_ := am (hp_); have n2_ := am (blk_grown (g := gb225) (o := .cells #[.int .u64 a0_0, .int .u64 a0_1, u226002] 27 (0, 0)) (pk BK225.out) hg (Kd.R_ne HO_234002.out BK225.out (by decide))); have n3_ := am (blk_grown (g := gb226) (o := .cells #[.int .u64 0, .int .u64 0, .slice none 0 0] 27 (0, 0)) (pk BK226.out) hg (Kd.R_ne HO_234002.out BK226.out (by decide))); have n4_ := am (blk_grown (g := gb233) (o := .cells #[.int .u64 a0_0, .int .u64 a0_1, .slice (some ⟨go56, 0, none⟩) x234002_1.length co60] 27 (0, 0)) (pk BK233.out) hg (Kd.R_ne HO_234002.out BK233.out (by decide))); have n5_ := am ((by rw [hw]; exact below_set (below_set (below_set (HB.out) GB56.out) GB56.out) GB56.out : Below w.heap.size w w62)); clear HO_226002; clear HO_234002; clear BK225; clear BK226; clear BK233; clear HB; have HO_226002 := n0_; have HO_234002 := n1_; have BK225 := n2_; have BK226 := n3_; have BK233 := n4_; have HB := n5_; clear n0_ n1_ n2_ n3_ n4_ n5_; clear hg hw hp_; have hcz63_0 := ce BK233 0; have hcz63_1 := ce BK233 1; have hcz63_2 := ce BK233 2; have hfz63_0 := fz BK233 0; have hfz63_1 := fz BK233 1; have hfz63_2 := fz BK233 2; have hnb64 := NB226_225.out; have hnc64 := NB225_226.out; have hcz65_0 := ce BK226 0; have hcz65_1 := ce BK226 1; have hcz65_2 := ce BK226 2; have hfz65_0 := fz BK226 0; have hfz65_1 := fz BK226 1; have hfz65_2 := fz BK226 2))
        refine bodyPost_ret (results_ct rfl _ _ gb226 27 #[.int .u64 a0_0, .int .u64 a0_1, .slice (some ⟨go56, 0, none⟩) x234002_1.length co60] (0, 0) _ rfl (by refine pk ?_; refine blk_put (cs := #[.int .u64 a0_0, .int .u64 a0_1, .slice none 0 0]) ?_ 2 _ rfl; refine pk ?_; refine blk_put (cs := #[.int .u64 a0_0, .int .u64 0, .slice none 0 0]) ?_ 1 _ rfl; refine pk ?_; refine blk_put (cs := #[.int .u64 0, .int .u64 0, .slice none 0 0]) ?_ 0 _ rfl; refine pk ?_; exact BK226.out) Try.underlying27 rfl (by kernel_rfl)) rfl ?_
        exact ⟨_, by first | rfl | (simp [errW_none, errW_some] <;> rfl) | (simp [*, errW_none, errW_some] <;> rfl), Kd.V_mono (Kd.R_V (pr (Kd.R_mono (Kd.R_far (p := ⟨gb226, 2, none⟩) (Kd.R_far (p := ⟨gb226, 1, none⟩) (Kd.R_far (p := ⟨gb226, 0, none⟩) (Kd.R_types HO_234002.out BK226.out (by decide)) (fun _ hk => hk.2) (.int .u64 a0_0)) (fun _ hk => hk.2) (.int .u64 a0_1)) (fun _ hk => hk.2) (.slice (some ⟨go56, 0, none⟩) x234002_1.length co60)) (fun _ hk => hk.1)))) (fun k_ hk => by first | exact ⟨(.inr (hk.1)), hk.2⟩ | exact (.inr (hk))), pb HB⟩
       ·rw [if_neg c55] at H
        exact absurd H (by simp)
      ·rw [if_neg c54] at H
       exact absurd H (by simp)
    ·rw [if_neg c29] at H
     exact absurd H (by simp)
   ·rw [if_neg c28] at H
    exact absurd H (by simp)
end Go.Proofs.Ytojpmjkphgjmgaa.H
