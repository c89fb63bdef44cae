import Derived.Test.YtojpmjkphgjmgaaHx0
import Derived.Test.YtojpmjkphgjmgaaHx6
import Derived.Test.YtojpmjkphgjmgaaHx7
import Derived.Test.YtojpmjkphgjmgaaHx8
namespace Go.Proofs.Ytojpmjkphgjmgaa.H
open Go.RowKit Go.Proofs.YtojpmjkphgjmgaaW.PrintWords Go.Proofs.YtojpmjkphgjmgaaW.PrintLast Go.Proofs.YtojpmjkphgjmgaaW.PrintMore Go.Proofs.YtojpmjkphgjmgaaW.Sq
attribute [local go_sem] max2_int min2_int max_two min_two max_three min_three max_four min_four
set_option linter.unusedVariables false
set_option linter.unusedSimpArgs false

def index_Put.j0 : Nat → ByteArray → Int → Int → Bool → Int → Int → List (S60) → Option (Int × Int × (List (S60)) × Int)
 | 0, _, _, _, _, _, _, _ => none
 | k + 1, x1, x2, x8, x46, x203000, x203001, x203002 => if x46 = true then (if (x203002.length : Int) = 4096 then (some (x203000, x203001, x203002, 1)) else ((index_grown.f k x203000 x203001 x203002).bind fun bt208 => ((index_walk.f k bt208.1 bt208.2.1 bt208.2.2 x1).bind fun bt213 => ((index_Slot_28.f bt208.2.2).bind fun t215 => (if 0 ≤ bt213.1 then (if bt213.1 < (t215.length : Int) then (some (bt208.1, bt208.2.1, (t215.set (bt213.1 : Int).toNat (⟨true, x1, x2⟩ : S60)), 0)) else (none)) else (none)))))) else ((index_Slot_28.f x203002).bind fun t220 => (if 0 ≤ x8 then (if x8 < (t220.length : Int) then (some (x203000, x203001, (t220.set (x8 : Int).toNat (⟨true, x1, x2⟩ : S60)), 0)) else (none)) else (none)))
def index_Put.f (k : Nat) (a0_0 : Int) (a0_1 : Int) (l0_2 : List (S60)) (a1 : ByteArray) (a2 : Int) : Option (Int × Int × (List (S60)) × Int) := (index_Right.f k a0_0 a0_1 l0_2).bind fun t204 => (if t204 = true then (if (a1.size : Int) > 64 then (some (a0_0, a0_1, l0_2, 5)) else (if a2 < 0 then (some (a0_0, a0_1, l0_2, 1)) else (if a2 > 2147483647 then (some (a0_0, a0_1, l0_2, 1)) else ((index_walk.f k a0_0 a0_1 l0_2 a1).bind fun bt205 => (if bt205.2 = true then (index_Put.j0 k a1 a2 bt205.1 false a0_0 a0_1 l0_2) else ((index_many.f k a0_0 a0_1 l0_2).bind fun t207 => (index_Put.j0 k a1 a2 bt205.1 (decide ((wrap64 (2 * (wrap64 (t207 + 1)))) > (l0_2.length : Int))) a0_0 a0_1 l0_2))))))) else (some (a0_0, a0_1, l0_2, 1)))
theorem index_Put.mono_l : ∀ k, (∀ y0 y1 y2 y3 y4 y5 y6, LeO (index_Put.j0 k y0 y1 y2 y3 y4 y5 y6) (index_Put.j0 (k + 1) y0 y1 y2 y3 y4 y5 y6))
 | 0 => fun _ _ _ _ _ _ _ r h => by simp [index_Put.j0] at h
 | k + 1 => by
  have ih0 := index_Put.mono_l k
  ·intro y0 y1 y2 y3 y4 y5 y6
   unfold index_Put.j0
   repeat' first
   | (with_reducible exact ih0 _ _ _ _ _ _ _)
   | (with_reducible exact index_Right.mono _ _ _ _)
   | (with_reducible exact index_grown.mono _ _ _ _)
   | (with_reducible exact index_many.mono _ _ _ _)
   | (with_reducible exact index_walk.mono _ _ _ _ _)
   | (with_reducible exact LeO.refl _)
   | (with_reducible exact LeO.none _)
   | (with_reducible refine LeO.ite ?_ ?_)
   | (with_reducible refine LeO.bind ?_ (fun _ => ?_))
theorem index_Put.mono : ∀ a0 a1 a2 a3 a4 k, LeO (index_Put.f k a0 a1 a2 a3 a4) (index_Put.f (k + 1) a0 a1 a2 a3 a4) := by
 intro a0 a1 a2 a3 a4 k
 have ih0 := index_Put.mono_l k
 unfold index_Put.f
 repeat' first
   | (with_reducible exact ih0 _ _ _ _ _ _ _)
   | (with_reducible exact index_Right.mono _ _ _ _)
   | (with_reducible exact index_grown.mono _ _ _ _)
   | (with_reducible exact index_many.mono _ _ _ _)
   | (with_reducible exact index_walk.mono _ _ _ _ _)
   | (with_reducible exact LeO.refl _)
   | (with_reducible exact LeO.none _)
   | (with_reducible refine LeO.ite ?_ ?_)
   | (with_reducible refine LeO.bind ?_ (fun _ => ?_))
def index_Put.T8 : Bool × List (List Nat × List Nat) := (true, [([], []), ([0], [0]), ([1], [1]), ([2], [2]), ([3, 2, 2], [2, 3]), ([4, 2], [2, 4]), ([5, 2], [2, 5]), ([2], [2]), ([7, 2], [2, 7]), ([8, 2], [2, 8]), ([6, 9, 2], [2, 6, 9]), ([2, 10], [2, 10])])
def index_Put.B8 : List Nat := [0, 1, 3, 7, 15, 31, 63, 7, 135, 391, 1023, 2047]
theorem index_Put.tab8 : rtab .any (opsOf Try.f13 8) = index_Put.T8 := by kernel_rfl
theorem index_Put.bits8 : waitsOk index_Put.T8.2 index_Put.B8 = true := by kernel_rfl
def index_Put.T13 : Bool × List (List Nat × List Nat) := (true, [([], []), ([0], [0]), ([], []), ([2], [2]), ([3], [3]), ([1, 4], [1, 4]), ([], []), ([6, 5, 4, 0, 1, 2, 3, 4, 5, 6], [5, 6])])
def index_Put.B13 : List Nat := [0, 1, 0, 4, 12, 31, 0, 127]
theorem index_Put.tab13 : rtab .any (opsOf Try.f13 13) = index_Put.T13 := by kernel_rfl
theorem index_Put.bits13 : waitsOk index_Put.T13.2 index_Put.B13 = true := by kernel_rfl
set_option maxHeartbeats 8000000 in
set_option maxRecDepth 100000 in
theorem index_Put.calls (k : Nat) (a0_0 : Int) (a0_1 : Int) (P0_2_ : Nat → Prop) (A0_2 : Option Addr) (c0_2 : Nat) (l0_2 : List (S60)) (a1 : ByteArray) (a2 : Int) (r1 : Int) (r2 : Int) (r3 : List (S60)) (r4 : Int) (w : World) (hs0_2 : Kd.V k60 60 w w.heap.size (fun k_ => P0_2_ k_) (.slice A0_2 l0_2.length c0_2) l0_2) (h : index_Put.f k a0_0 a0_1 l0_2 a1 a2 = some (r1, r2, r3, r4)) :
  Calls Try.prog 13 #[.agg #[.int .u64 a0_0, .int .u64 a0_1, .slice A0_2 l0_2.length c0_2], .string a1, .int .i64 a2] w fun e w' => ∃ v2_ : Value, e = .returned (.tuple #[.agg #[.int .u64 r1, .int .u64 r2, v2_], .int .i64 r4]) ∧ Kd.V k60 60 w' w.heap.size (fun k_ => (P0_2_ k_ ∨ w.heap.size ≤ k_)) v2_ r3 ∧ Below w.heap.size w w' := by
 have hu27 := Try.underlying27
 have hu24 := Try.underlying24
 have hu60 := Try.underlying60
 have HO0_2 := am (show Kd.V k60 60 w w.heap.size (fun k_ => (P0_2_ k_ ∨ w.heap.size ≤ k_)) (.slice A0_2 l0_2.length c0_2) l0_2 from Kd.V_mono hs0_2 (fun k_ hk => .inl hk))
 have HB := am (Below.refl w.heap.size w)
 have H : ((index_Right.f k a0_0 a0_1 l0_2).bind fun t204 => (if t204 = true then (if (a1.size : Int) > 64 then (some (a0_0, a0_1, l0_2, 5)) else (if a2 < 0 then (some (a0_0, a0_1, l0_2, 1)) else (if a2 > 2147483647 then (some (a0_0, a0_1, l0_2, 1)) else ((index_walk.f k a0_0 a0_1 l0_2 a1).bind fun bt205 => (if bt205.2 = true then (index_Put.j0 k a1 a2 bt205.1 false a0_0 a0_1 l0_2) else ((index_many.f k a0_0 a0_1 l0_2).bind fun t207 => (index_Put.j0 k a1 a2 bt205.1 (decide ((wrap64 (2 * (wrap64 (t207 + 1)))) > (l0_2.length : Int))) a0_0 a0_1 l0_2))))))) else (some (a0_0, a0_1, l0_2, 1)))) = some (r1, r2, r3, r4) := h
 clear h
 replace H := Option.bind_eq_some_iff.mp H
 obtain ⟨t204, A40, H⟩ := H
 replace H : (if t204 = true then (if (a1.size : Int) > 64 then (some (a0_0, a0_1, l0_2, 5)) else (if a2 < 0 then (some (a0_0, a0_1, l0_2, 1)) else (if a2 > 2147483647 then (some (a0_0, a0_1, l0_2, 1)) else ((index_walk.f k a0_0 a0_1 l0_2 a1).bind fun bt205 => (if bt205.2 = true then (index_Put.j0 k a1 a2 bt205.1 false a0_0 a0_1 l0_2) else ((index_many.f k a0_0 a0_1 l0_2).bind fun t207 => (index_Put.j0 k a1 a2 bt205.1 (decide ((wrap64 (2 * (wrap64 (t207 + 1)))) > (l0_2.length : Int))) a0_0 a0_1 l0_2))))))) else (some (a0_0, a0_1, l0_2, 1))) = some (r1, r2, r3, r4) := H
 have A4 := am A40
 clear A40
 by_cases c5 : t204 = true
 rotate_left
 ·replace c5 := Bool.eq_false_iff.mpr c5
  subst c5
  have H1 : (some (a0_0, a0_1, l0_2, 1)) = some (r1, r2, r3, r4) := by rw [if_neg (show ¬ (false = true) by decide)] at H; exact H
  clear H
  have H := H1
  clear H1
  simp only [Option.some.injEq, Prod.mk.injEq] at H
  obtain ⟨rfl, rfl, rfl, rfl⟩ := H
  go_enter Try.func13, Try.ntmps13
  go_wp2_with (first | ((with_reducible refine gate_dst (N := 3) rfl ?_); (try (refine gate_guard (by rfl) ?_; dsimp only)); refine be 3 #[.int .u64 a0_0, .int .u64 a0_1, .slice A0_2 l0_2.length c0_2] 27 ?_; intro gb202 hg w100 hbox hb; have n0_ := am (Kd.V_below (Kd.V_elderB (pv HO0_2.out) gb202 (Nat.le_of_eq hg.symm)) hb); have n1_ := am (below_step (pb HB) hb); have n2_ := am (hbox); have n3_ := am ((pg hg HB : w.heap.size ≤ gb202)); have n4_ := am ((pg hg HB : w.heap.size ≤ gb202)); clear HO0_2; clear HB; have HO0_2 := n0_; have HB := n1_; have BK202 := n2_; have GW202 := n3_; have GE202 := n4_; clear n0_ n1_ n2_ n3_ n4_; clear hb hbox hg) | ((with_reducible refine gate_dst (N := 6) rfl ?_); (try (refine gate_guard (by rfl) ?_; dsimp only)); refine be 6 #[.int .u64 0, .int .u64 0, .slice none 0 0] 27 ?_; intro gb203 hg w101 hbox hb; have n0_ := am (Kd.V_below (Kd.V_elderB (pv HO0_2.out) gb203 (Nat.le_of_eq hg.symm)) hb); have n1_ := am (blk_below (pk BK202.out) hb); have n2_ := am (below_step (pb HB) hb); have n3_ := am (hbox); have n4_ := am ((pg hg HB : w.heap.size ≤ gb203)); have n5_ := am ((pg hg HB : w.heap.size ≤ gb203)); have n6_ := am ((pl hg (pk BK202.out) : gb202 ≠ gb203)); have n7_ := am ((pl' hg (pk BK202.out) : gb203 ≠ gb202)); clear HO0_2; clear BK202; clear HB; have HO0_2 := n0_; have BK202 := n1_; have HB := n2_; have BK203 := n3_; have GW203 := n4_; have GE203 := n5_; have NB202_203 := n6_; have NB203_202 := n7_; clear n0_ n1_ n2_ n3_ n4_ n5_ n6_ n7_; clear hb hbox hg; have hnb102 := NB202_203.out; have hnc102 := NB203_202.out; have hcz103_0 := ce BK202 0; have hcz103_1 := ce BK202 1; have hcz103_2 := ce BK202 2; have hfz103_0 := fz BK202 0; have hfz103_1 := fz BK202 1; have hfz103_2 := fz BK202 2) | ((with_reducible refine gate_callee (f := 15) rfl ?_); refine gl (some 13) Try.func15 #[.agg #[.int .u64 a0_0, .int .u64 a0_1, .slice A0_2 l0_2.length c0_2]] ?_; (with_reducible refine (index_Right.calls k a0_0 a0_1 _ _ l0_2 false _ ?side1 ?side2 A4.out).mono ?_); (case side1 => repeat (first | exact (Kd.V_reads' HO0_2.out).2.2 | (with_reducible refine Kd.C_alloc ?_ _) | (with_reducible refine Kd.C_drewN ?_ _) | (with_reducible refine Kd.C_drew ?_))); (case side2 => exact (Kd.V_reads' HO0_2.out).2.1); rintro e w104 ⟨rfl, hb⟩; refine ⟨_, rfl, ?_⟩; replace HO0_2 := am (Kd.V_below (pv HO0_2.out) hb); replace BK202 := am (blk_below (pk BK202.out) hb); replace BK203 := am (blk_below (pk BK203.out) hb); replace HB := am (below_step (pb HB) hb); (try clear hb); (try clear hb2); (try clear hk); (try clear hi); have hcz105_0 := ce BK202 0; have hcz105_1 := ce BK202 1; have hcz105_2 := ce BK202 2; have hfz105_0 := fz BK202 0; have hfz105_1 := fz BK202 1; have hfz105_2 := fz BK202 2; have hcz106_0 := ce BK203 0; have hcz106_1 := ce BK203 1; have hcz106_2 := ce BK203 2; have hfz106_0 := fz BK203 0; have hfz106_1 := fz BK203 1; have hfz106_2 := fz BK203 2))
  refine bodyPost_ret (results_ct rfl _ _ gb203 27 #[.int .u64 a0_0, .int .u64 a0_1, .slice A0_2 l0_2.length c0_2] (0, 0) _ rfl (by refine pk ?_; refine blk_put (cs := #[.int .u64 a0_0, .int .u64 a0_1, .slice none 0 0]) ?_ 2 _ rfl; refine pk ?_; refine blk_put (cs := #[.int .u64 a0_0, .int .u64 0, .slice none 0 0]) ?_ 1 _ rfl; refine pk ?_; refine blk_put (cs := #[.int .u64 0, .int .u64 0, .slice none 0 0]) ?_ 0 _ rfl; refine pk ?_; exact BK203.out) Try.underlying27 rfl (by kernel_rfl)) rfl ?_
  exact ⟨_, by first | rfl | (simp [errW_none, errW_some] <;> rfl) | (simp [*, errW_none, errW_some] <;> rfl), by refine pv ?_; exact Kd.V_mono (Kd.V_far (p := ⟨gb203, 2, none⟩) (Kd.V_far (p := ⟨gb203, 1, none⟩) (Kd.V_far (p := ⟨gb203, 0, none⟩) (Kd.V_mono HO0_2.out (fun k_ hk => (⟨hk, hk.2⟩ : _ ∧ k_ ≠ gb203))) (fun _ hk => hk.2) (.int .u64 a0_0)) (fun _ hk => hk.2) (.int .u64 a0_1)) (fun _ hk => hk.2) (.slice A0_2 l0_2.length c0_2)) (fun _ hk => hk.1.1.1), pb HB⟩
 subst c5
 have H1 : (if (a1.size : Int) > 64 then (some (a0_0, a0_1, l0_2, 5)) else (if a2 < 0 then (some (a0_0, a0_1, l0_2, 1)) else (if a2 > 2147483647 then (some (a0_0, a0_1, l0_2, 1)) else ((index_walk.f k a0_0 a0_1 l0_2 a1).bind fun bt205 => (if bt205.2 = true then (index_Put.j0 k a1 a2 bt205.1 false a0_0 a0_1 l0_2) else ((index_many.f k a0_0 a0_1 l0_2).bind fun t207 => (index_Put.j0 k a1 a2 bt205.1 (decide ((wrap64 (2 * (wrap64 (t207 + 1)))) > (l0_2.length : Int))) a0_0 a0_1 l0_2))))))) = some (r1, r2, r3, r4) := by rw [if_pos rfl] at H; exact H
 clear H
 have H := H1
 clear H1
 by_cases c6 : (a1.size : Int) > 64
 ·rw [if_pos c6] at H
  have c6b0 : decide (64 < (a1.size : Int)) = true := decide_eq_true c6
  have c6b1 : decide (64 < a1.size) = true := decide_eq_true (by omega)
  clear c6
  simp only [Option.some.injEq, Prod.mk.injEq] at H
  obtain ⟨rfl, rfl, rfl, rfl⟩ := H
  go_enter Try.func13, Try.ntmps13
  go_wp2_with (first | ((with_reducible refine gate_dst (N := 3) rfl ?_); (try (refine gate_guard (by rfl) ?_; dsimp only)); refine be 3 #[.int .u64 a0_0, .int .u64 a0_1, .slice A0_2 l0_2.length c0_2] 27 ?_; intro gb202 hg w7 hbox hb; have n0_ := am (Kd.V_below (Kd.V_elderB (pv HO0_2.out) gb202 (Nat.le_of_eq hg.symm)) hb); have n1_ := am (below_step (pb HB) hb); have n2_ := am (hbox); have n3_ := am ((pg hg HB : w.heap.size ≤ gb202)); have n4_ := am ((pg hg HB : w.heap.size ≤ gb202)); clear HO0_2; clear HB; have HO0_2 := n0_; have HB := n1_; have BK202 := n2_; have GW202 := n3_; have GE202 := n4_; clear n0_ n1_ n2_ n3_ n4_; clear hb hbox hg) | ((with_reducible refine gate_dst (N := 6) rfl ?_); (try (refine gate_guard (by rfl) ?_; dsimp only)); refine be 6 #[.int .u64 0, .int .u64 0, .slice none 0 0] 27 ?_; intro gb203 hg w8 hbox hb; have n0_ := am (Kd.V_below (Kd.V_elderB (pv HO0_2.out) gb203 (Nat.le_of_eq hg.symm)) hb); have n1_ := am (blk_below (pk BK202.out) hb); have n2_ := am (below_step (pb HB) hb); have n3_ := am (hbox); have n4_ := am ((pg hg HB : w.heap.size ≤ gb203)); have n5_ := am ((pg hg HB : w.heap.size ≤ gb203)); have n6_ := am ((pl hg (pk BK202.out) : gb202 ≠ gb203)); have n7_ := am ((pl' hg (pk BK202.out) : gb203 ≠ gb202)); clear HO0_2; clear BK202; clear HB; have HO0_2 := n0_; have BK202 := n1_; have HB := n2_; have BK203 := n3_; have GW203 := n4_; have GE203 := n5_; have NB202_203 := n6_; have NB203_202 := n7_; clear n0_ n1_ n2_ n3_ n4_ n5_ n6_ n7_; clear hb hbox hg; have hnb9 := NB202_203.out; have hnc9 := NB203_202.out; have hcz10_0 := ce BK202 0; have hcz10_1 := ce BK202 1; have hcz10_2 := ce BK202 2; have hfz10_0 := fz BK202 0; have hfz10_1 := fz BK202 1; have hfz10_2 := fz BK202 2) | ((with_reducible refine gate_callee (f := 15) rfl ?_); refine gl (some 13) Try.func15 #[.agg #[.int .u64 a0_0, .int .u64 a0_1, .slice A0_2 l0_2.length c0_2]] ?_; (with_reducible refine (index_Right.calls k a0_0 a0_1 _ _ l0_2 true _ ?side1 ?side2 A4.out).mono ?_); (case side1 => repeat (first | exact (Kd.V_reads' HO0_2.out).2.2 | (with_reducible refine Kd.C_alloc ?_ _) | (with_reducible refine Kd.C_drewN ?_ _) | (with_reducible refine Kd.C_drew ?_))); (case side2 => exact (Kd.V_reads' HO0_2.out).2.1); rintro e w11 ⟨rfl, hb⟩; refine ⟨_, rfl, ?_⟩; replace HO0_2 := am (Kd.V_below (pv HO0_2.out) hb); replace BK202 := am (blk_below (pk BK202.out) hb); replace BK203 := am (blk_below (pk BK203.out) hb); replace HB := am (below_step (pb HB) hb); (try clear hb); (try clear hb2); (try clear hk); (try clear hi); have hcz12_0 := ce BK202 0; have hcz12_1 := ce BK202 1; have hcz12_2 := ce BK202 2; have hfz12_0 := fz BK202 0; have hfz12_1 := fz BK202 1; have hfz12_2 := fz BK202 2; have hcz13_0 := ce BK203 0; have hcz13_1 := ce BK203 1; have hcz13_2 := ce BK203 2; have hfz13_0 := fz BK203 0; have hfz13_1 := fz BK203 1; have hfz13_2 := fz BK203 2))
  refine bodyPost_ret (results_ct rfl _ _ gb203 27 #[.int .u64 a0_0, .int .u64 a0_1, .slice A0_2 l0_2.length c0_2] (0, 0) _ rfl (by refine pk ?_; refine blk_put (cs := #[.int .u64 a0_0, .int .u64 a0_1, .slice none 0 0]) ?_ 2 _ rfl; refine pk ?_; refine blk_put (cs := #[.int .u64 a0_0, .int .u64 0, .slice none 0 0]) ?_ 1 _ rfl; refine pk ?_; refine blk_put (cs := #[.int .u64 0, .int .u64 0, .slice none 0 0]) ?_ 0 _ rfl; refine pk ?_; exact BK203.out) Try.underlying27 rfl (by kernel_rfl)) rfl ?_
  exact ⟨_, by first | rfl | (simp [errW_none, errW_some] <;> rfl) | (simp [*, errW_none, errW_some] <;> rfl), by refine pv ?_; exact Kd.V_mono (Kd.V_far (p := ⟨gb203, 2, none⟩) (Kd.V_far (p := ⟨gb203, 1, none⟩) (Kd.V_far (p := ⟨gb203, 0, none⟩) (Kd.V_mono HO0_2.out (fun k_ hk => (⟨hk, hk.2⟩ : _ ∧ k_ ≠ gb203))) (fun _ hk => hk.2) (.int .u64 a0_0)) (fun _ hk => hk.2) (.int .u64 a0_1)) (fun _ hk => hk.2) (.slice A0_2 l0_2.length c0_2)) (fun _ hk => hk.1.1.1), pb HB⟩
 rw [if_neg c6] at H
 have c6b0 : decide (64 < (a1.size : Int)) = false := decide_eq_false c6
 have c6b1 : decide (64 < a1.size) = false := decide_eq_false (by omega)
 clear c6
 by_cases c14 : a2 < 0
 ·rw [if_pos c14] at H
  have c14b0 : decide (a2 < 0) = true := decide_eq_true c14
  clear c14
  simp only [Option.some.injEq, Prod.mk.injEq] at H
  obtain ⟨rfl, rfl, rfl, rfl⟩ := H
  go_enter Try.func13, Try.ntmps13
  go_wp2_with (first | ((with_reducible refine gate_dst (N := 3) rfl ?_); (try (refine gate_guard (by rfl) ?_; dsimp only)); refine be 3 #[.int .u64 a0_0, .int .u64 a0_1, .slice A0_2 l0_2.length c0_2] 27 ?_; intro gb202 hg w15 hbox hb; have n0_ := am (Kd.V_below (Kd.V_elderB (pv HO0_2.out) gb202 (Nat.le_of_eq hg.symm)) hb); have n1_ := am (below_step (pb HB) hb); have n2_ := am (hbox); have n3_ := am ((pg hg HB : w.heap.size ≤ gb202)); have n4_ := am ((pg hg HB : w.heap.size ≤ gb202)); clear HO0_2; clear HB; have HO0_2 := n0_; have HB := n1_; have BK202 := n2_; have GW202 := n3_; have GE202 := n4_; clear n0_ n1_ n2_ n3_ n4_; clear hb hbox hg) | ((with_reducible refine gate_dst (N := 6) rfl ?_); (try (refine gate_guard (by rfl) ?_; dsimp only)); refine be 6 #[.int .u64 0, .int .u64 0, .slice none 0 0] 27 ?_; intro gb203 hg w16 hbox hb; have n0_ := am (Kd.V_below (Kd.V_elderB (pv HO0_2.out) gb203 (Nat.le_of_eq hg.symm)) hb); have n1_ := am (blk_below (pk BK202.out) hb); have n2_ := am (below_step (pb HB) hb); have n3_ := am (hbox); have n4_ := am ((pg hg HB : w.heap.size ≤ gb203)); have n5_ := am ((pg hg HB : w.heap.size ≤ gb203)); have n6_ := am ((pl hg (pk BK202.out) : gb202 ≠ gb203)); have n7_ := am ((pl' hg (pk BK202.out) : gb203 ≠ gb202)); clear HO0_2; clear BK202; clear HB; have HO0_2 := n0_; have BK202 := n1_; have HB := n2_; have BK203 := n3_; have GW203 := n4_; have GE203 := n5_; have NB202_203 := n6_; have NB203_202 := n7_; clear n0_ n1_ n2_ n3_ n4_ n5_ n6_ n7_; clear hb hbox hg; have hnb17 := NB202_203.out; have hnc17 := NB203_202.out; have hcz18_0 := ce BK202 0; have hcz18_1 := ce BK202 1; have hcz18_2 := ce BK202 2; have hfz18_0 := fz BK202 0; have hfz18_1 := fz BK202 1; have hfz18_2 := fz BK202 2) | ((with_reducible refine gate_callee (f := 15) rfl ?_); refine gl (some 13) Try.func15 #[.agg #[.int .u64 a0_0, .int .u64 a0_1, .slice A0_2 l0_2.length c0_2]] ?_; (with_reducible refine (index_Right.calls k a0_0 a0_1 _ _ l0_2 true _ ?side1 ?side2 A4.out).mono ?_); (case side1 => repeat (first | exact (Kd.V_reads' HO0_2.out).2.2 | (with_reducible refine Kd.C_alloc ?_ _) | (with_reducible refine Kd.C_drewN ?_ _) | (with_reducible refine Kd.C_drew ?_))); (case side2 => exact (Kd.V_reads' HO0_2.out).2.1); rintro e w19 ⟨rfl, hb⟩; refine ⟨_, rfl, ?_⟩; replace HO0_2 := am (Kd.V_below (pv HO0_2.out) hb); replace BK202 := am (blk_below (pk BK202.out) hb); replace BK203 := am (blk_below (pk BK203.out) hb); replace HB := am (below_step (pb HB) hb); (try clear hb); (try clear hb2); (try clear hk); (try clear hi); have hcz20_0 := ce BK202 0; have hcz20_1 := ce BK202 1; have hcz20_2 := ce BK202 2; have hfz20_0 := fz BK202 0; have hfz20_1 := fz BK202 1; have hfz20_2 := fz BK202 2; have hcz21_0 := ce BK203 0; have hcz21_1 := ce BK203 1; have hcz21_2 := ce BK203 2; have hfz21_0 := fz BK203 0; have hfz21_1 := fz BK203 1; have hfz21_2 := fz BK203 2))
  refine bodyPost_ret (results_ct rfl _ _ gb203 27 #[.int .u64 a0_0, .int .u64 a0_1, .slice A0_2 l0_2.length c0_2] (0, 0) _ rfl (by refine pk ?_; refine blk_put (cs := #[.int .u64 a0_0, .int .u64 a0_1, .slice none 0 0]) ?_ 2 _ rfl; refine pk ?_; refine blk_put (cs := #[.int .u64 a0_0, .int .u64 0, .slice none 0 0]) ?_ 1 _ rfl; refine pk ?_; refine blk_put (cs := #[.int .u64 0, .int .u64 0, .slice none 0 0]) ?_ 0 _ rfl; refine pk ?_; exact BK203.out) Try.underlying27 rfl (by kernel_rfl)) rfl ?_
  exact ⟨_, by first | rfl | (simp [errW_none, errW_some] <;> rfl) | (simp [*, errW_none, errW_some] <;> rfl), by refine pv ?_; exact Kd.V_mono (Kd.V_far (p := ⟨gb203, 2, none⟩) (Kd.V_far (p := ⟨gb203, 1, none⟩) (Kd.V_far (p := ⟨gb203, 0, none⟩) (Kd.V_mono HO0_2.out (fun k_ hk => (⟨hk, hk.2⟩ : _ ∧ k_ ≠ gb203))) (fun _ hk => hk.2) (.int .u64 a0_0)) (fun _ hk => hk.2) (.int .u64 a0_1)) (fun _ hk => hk.2) (.slice A0_2 l0_2.length c0_2)) (fun _ hk => hk.1.1.1), pb HB⟩
 rw [if_neg c14] at H
 have c14b0 : decide (a2 < 0) = false := decide_eq_false c14
 clear c14
 by_cases c22 : a2 > 2147483647
 ·rw [if_pos c22] at H
  have c22b0 : decide (2147483647 < a2) = true := decide_eq_true c22
  clear c22
  simp only [Option.some.injEq, Prod.mk.injEq] at H
  obtain ⟨rfl, rfl, rfl, rfl⟩ := H
  go_enter Try.func13, Try.ntmps13
  go_wp2_with (first | ((with_reducible refine gate_dst (N := 3) rfl ?_); (try (refine gate_guard (by rfl) ?_; dsimp only)); refine be 3 #[.int .u64 a0_0, .int .u64 a0_1, .slice A0_2 l0_2.length c0_2] 27 ?_; intro gb202 hg w23 hbox hb; have n0_ := am (Kd.V_below (Kd.V_elderB (pv HO0_2.out) gb202 (Nat.le_of_eq hg.symm)) hb); have n1_ := am (below_step (pb HB) hb); have n2_ := am (hbox); have n3_ := am ((pg hg HB : w.heap.size ≤ gb202)); have n4_ := am ((pg hg HB : w.heap.size ≤ gb202)); clear HO0_2; clear HB; have HO0_2 := n0_; have HB := n1_; have BK202 := n2_; have GW202 := n3_; have GE202 := n4_; clear n0_ n1_ n2_ n3_ n4_; clear hb hbox hg) | ((with_reducible refine gate_dst (N := 6) rfl ?_); (try (refine gate_guard (by rfl) ?_; dsimp only)); refine be 6 #[.int .u64 0, .int .u64 0, .slice none 0 0] 27 ?_; intro gb203 hg w24 hbox hb; have n0_ := am (Kd.V_below (Kd.V_elderB (pv HO0_2.out) gb203 (Nat.le_of_eq hg.symm)) hb); have n1_ := am (blk_below (pk BK202.out) hb); have n2_ := am (below_step (pb HB) hb); have n3_ := am (hbox); have n4_ := am ((pg hg HB : w.heap.size ≤ gb203)); have n5_ := am ((pg hg HB : w.heap.size ≤ gb203)); have n6_ := am ((pl hg (pk BK202.out) : gb202 ≠ gb203)); have n7_ := am ((pl' hg (pk BK202.out) : gb203 ≠ gb202)); clear HO0_2; clear BK202; clear HB; have HO0_2 := n0_; have BK202 := n1_; have HB := n2_; have BK203 := n3_; have GW203 := n4_; have GE203 := n5_; have NB202_203 := n6_; have NB203_202 := n7_; clear n0_ n1_ n2_ n3_ n4_ n5_ n6_ n7_; clear hb hbox hg; have hnb25 := NB202_203.out; have hnc25 := NB203_202.out; have hcz26_0 := ce BK202 0; have hcz26_1 := ce BK202 1; have hcz26_2 := ce BK202 2; have hfz26_0 := fz BK202 0; have hfz26_1 := fz BK202 1; have hfz26_2 := fz BK202 2) | ((with_reducible refine gate_callee (f := 15) rfl ?_); refine gl (some 13) Try.func15 #[.agg #[.int .u64 a0_0, .int .u64 a0_1, .slice A0_2 l0_2.length c0_2]] ?_; (with_reducible refine (index_Right.calls k a0_0 a0_1 _ _ l0_2 true _ ?side1 ?side2 A4.out).mono ?_); (case side1 => repeat (first | exact (Kd.V_reads' HO0_2.out).2.2 | (with_reducible refine Kd.C_alloc ?_ _) | (with_reducible refine Kd.C_drewN ?_ _) | (with_reducible refine Kd.C_drew ?_))); (case side2 => exact (Kd.V_reads' HO0_2.out).2.1); rintro e w27 ⟨rfl, hb⟩; refine ⟨_, rfl, ?_⟩; replace HO0_2 := am (Kd.V_below (pv HO0_2.out) hb); replace BK202 := am (blk_below (pk BK202.out) hb); replace BK203 := am (blk_below (pk BK203.out) hb); replace HB := am (below_step (pb HB) hb); (try clear hb); (try clear hb2); (try clear hk); (try clear hi); have hcz28_0 := ce BK202 0; have hcz28_1 := ce BK202 1; have hcz28_2 := ce BK202 2; have hfz28_0 := fz BK202 0; have hfz28_1 := fz BK202 1; have hfz28_2 := fz BK202 2; have hcz29_0 := ce BK203 0; have hcz29_1 := ce BK203 1; have hcz29_2 := ce BK203 2; have hfz29_0 := fz BK203 0; have hfz29_1 := fz BK203 1; have hfz29_2 := fz BK203 2))
  refine bodyPost_ret (results_ct rfl _ _ gb203 27 #[.int .u64 a0_0, .int .u64 a0_1, .slice A0_2 l0_2.length c0_2] (0, 0) _ rfl (by refine pk ?_; refine blk_put (cs := #[.int .u64 a0_0, .int .u64 a0_1, .slice none 0 0]) ?_ 2 _ rfl; refine pk ?_; refine blk_put (cs := #[.int .u64 a0_0, .int .u64 0, .slice none 0 0]) ?_ 1 _ rfl; refine pk ?_; refine blk_put (cs := #[.int .u64 0, .int .u64 0, .slice none 0 0]) ?_ 0 _ rfl; refine pk ?_; exact BK203.out) Try.underlying27 rfl (by kernel_rfl)) rfl ?_
  exact ⟨_, by first | rfl | (simp [errW_none, errW_some] <;> rfl) | (simp [*, errW_none, errW_some] <;> rfl), by refine pv ?_; exact Kd.V_mono (Kd.V_far (p := ⟨gb203, 2, none⟩) (Kd.V_far (p := ⟨gb203, 1, none⟩) (Kd.V_far (p := ⟨gb203, 0, none⟩) (Kd.V_mono HO0_2.out (fun k_ hk => (⟨hk, hk.2⟩ : _ ∧ k_ ≠ gb203))) (fun _ hk => hk.2) (.int .u64 a0_0)) (fun _ hk => hk.2) (.int .u64 a0_1)) (fun _ hk => hk.2) (.slice A0_2 l0_2.length c0_2)) (fun _ hk => hk.1.1.1), pb HB⟩
 rw [if_neg c22] at H
 have c22b0 : decide (2147483647 < a2) = false := decide_eq_false c22
 clear c22
 replace H := Option.bind_eq_some_iff.mp H
 obtain ⟨⟨t205, t206⟩, A300, H⟩ := H
 replace H : (if t206 = true then (index_Put.j0 k a1 a2 t205 false a0_0 a0_1 l0_2) else ((index_many.f k a0_0 a0_1 l0_2).bind fun t207 => (index_Put.j0 k a1 a2 t205 (decide ((wrap64 (2 * (wrap64 (t207 + 1)))) > (l0_2.length : Int))) a0_0 a0_1 l0_2))) = some (r1, r2, r3, r4) := H
 have A30 := am A300
 clear A300
 have HC31 := am H
 clear H
 go_enter Try.func13, Try.ntmps13
 go_upto_region 8 with (first | ((with_reducible refine gate_dst (N := 3) rfl ?_); (try (refine gate_guard (by rfl) ?_; dsimp only)); refine be 3 #[.int .u64 a0_0, .int .u64 a0_1, .slice A0_2 l0_2.length c0_2] 27 ?_; intro gb202 hg w32 hbox hb; have n0_ := am (Kd.V_below (Kd.V_elderB (pv HO0_2.out) gb202 (Nat.le_of_eq hg.symm)) hb); have n1_ := am (below_step (pb HB) hb); have n2_ := am (hbox); have n3_ := am ((pg hg HB : w.heap.size ≤ gb202)); have n4_ := am ((pg hg HB : w.heap.size ≤ gb202)); clear HO0_2; clear HB; have HO0_2 := n0_; have HB := n1_; have BK202 := n2_; have GW202 := n3_; have GE202 := n4_; clear n0_ n1_ n2_ n3_ n4_; clear hb hbox hg) | ((with_reducible refine gate_dst (N := 6) rfl ?_); (try (refine gate_guard (by rfl) ?_; dsimp only)); refine be 6 #[.int .u64 0, .int .u64 0, .slice none 0 0] 27 ?_; intro gb203 hg w33 hbox hb; have n0_ := am (Kd.V_below (Kd.V_elderB (pv HO0_2.out) gb203 (Nat.le_of_eq hg.symm)) hb); have n1_ := am (blk_below (pk BK202.out) hb); have n2_ := am (below_step (pb HB) hb); have n3_ := am (hbox); have n4_ := am ((pg hg HB : w.heap.size ≤ gb203)); have n5_ := am ((pg hg HB : w.heap.size ≤ gb203)); have n6_ := am ((pl hg (pk BK202.out) : gb202 ≠ gb203)); have n7_ := am ((pl' hg (pk BK202.out) : gb203 ≠ gb202)); clear HO0_2; clear BK202; clear HB; have HO0_2 := n0_; have BK202 := n1_; have HB := n2_; have BK203 := n3_; have GW203 := n4_; have GE203 := n5_; have NB202_203 := n6_; have NB203_202 := n7_; clear n0_ n1_ n2_ n3_ n4_ n5_ n6_ n7_; clear hb hbox hg; have hnb34 := NB202_203.out; have hnc34 := NB203_202.out; have hcz35_0 := ce BK202 0; have hcz35_1 := ce BK202 1; have hcz35_2 := ce BK202 2; have hfz35_0 := fz BK202 0; have hfz35_1 := fz BK202 1; have hfz35_2 := fz BK202 2) | ((with_reducible refine gate_callee (f := 15) rfl ?_); refine gl (some 13) Try.func15 #[.agg #[.int .u64 a0_0, .int .u64 a0_1, .slice A0_2 l0_2.length c0_2]] ?_; (with_reducible refine (index_Right.calls k a0_0 a0_1 _ _ l0_2 true _ ?side1 ?side2 A4.out).mono ?_); (case side1 => repeat (first | exact (Kd.V_reads' HO0_2.out).2.2 | (with_reducible refine Kd.C_alloc ?_ _) | (with_reducible refine Kd.C_drewN ?_ _) | (with_reducible refine Kd.C_drew ?_))); (case side2 => exact (Kd.V_reads' HO0_2.out).2.1); rintro e w36 ⟨rfl, hb⟩; refine ⟨_, rfl, ?_⟩; replace HO0_2 := am (Kd.V_below (pv HO0_2.out) hb); replace BK202 := am (blk_below (pk BK202.out) hb); replace BK203 := am (blk_below (pk BK203.out) hb); replace HB := am (below_step (pb HB) hb); (try clear hb); (try clear hb2); (try clear hk); (try clear hi); have hcz37_0 := ce BK202 0; have hcz37_1 := ce BK202 1; have hcz37_2 := ce BK202 2; have hfz37_0 := fz BK202 0; have hfz37_1 := fz BK202 1; have hfz37_2 := fz BK202 2) | ((with_reducible refine gate_callee (f := 25) rfl ?_); refine gl (some 32) Try.func25 #[.agg #[.int .u64 a0_0, .int .u64 a0_1, .slice A0_2 l0_2.length c0_2], .string a1] ?_; (with_reducible refine (index_walk.calls k a0_0 a0_1 _ _ l0_2 a1 t205 t206 _ ?side1 ?side2 A30.out).mono ?_); (case side1 => repeat (first | exact (Kd.V_reads' HO0_2.out).2.2 | (with_reducible refine Kd.C_alloc ?_ _) | (with_reducible refine Kd.C_drewN ?_ _) | (with_reducible refine Kd.C_drew ?_))); (case side2 => exact (Kd.V_reads' HO0_2.out).2.1); rintro e w38 ⟨rfl, hb⟩; refine ⟨_, rfl, ?_⟩; replace HO0_2 := am (Kd.V_below (pv HO0_2.out) hb); replace BK202 := am (blk_below (pk BK202.out) hb); replace BK203 := am (blk_below (pk BK203.out) hb); replace HB := am (below_step (pb HB) hb); (try clear hb); (try clear hb2); (try clear hk); (try clear hi)))
 (try simp only [Act.put, List.setIfInBounds_toArray, List.set_cons_zero, List.set_cons_succ])
 go_cut [46] (fun v46 wc => ∃ (kq : Nat) (x46_30 : Bool), v46 = .bool x46_30 ∧ Aside0 (index_Put.j0 kq a1 a2 t205 x46_30 a0_0 a0_1 l0_2 = some (r1, r2, r3, r4)) ∧ Aside0 (kq ≤ k) ∧ Aside0 (Kd.V k60 60 wc w.heap.size (fun k_ => (P0_2_ k_ ∨ w.heap.size ≤ k_) ∧ k_ ≠ gb202 ∧ k_ ≠ gb203) (.slice A0_2 l0_2.length c0_2) l0_2) ∧ Aside0 (wc.heap[gb202]? = some (.cells #[.int .u64 a0_0, .int .u64 a0_1, (.slice A0_2 l0_2.length c0_2)] 27 (0, 0))) ∧ Aside0 (wc.heap[gb203]? = some (.cells #[.int .u64 0, .int .u64 0, (.slice none 0 0)] 27 (0, 0))) ∧ Aside0 (Below w.heap.size w wc))
 case first =>
  have H := HC31.out
  clear HC31
  by_cases c39 : t206 = true
  ·subst c39
   have H1 : (index_Put.j0 k a1 a2 t205 false a0_0 a0_1 l0_2) = some (r1, r2, r3, r4) := by rw [if_pos rfl] at H; exact H
   clear H
   have H := H1
   clear H1
   have H' := am H
   clear H
   try go_wp2
   replace HO0_2 := am (Kd.V_drew HO0_2.out)
   replace BK202 := am (blk_drew BK202.out)
   replace BK203 := am (blk_drew BK203.out)
   replace HB := am (below_drew1 HB.out)
   refine start_ (n := 12) (S := fun w' => True) (ds := []) #[false, false, false, false, false, false, false, false, false, false, false, false] (by kernel_rfl) rfl rfl trivial (fun hHeld => ?_); refine with_tabW index_Put.tab8 index_Put.bits8 (fun HT_ HW_ => ?_)
   generalize w38.drew = w40 at HO0_2 BK202 BK203 HB hHeld ⊢
   refine pu 0 ?_
   refine pu 1 ?_
   refine pu 2 ?_
   refine po 3 ?_
   refine po 4 ?_
   refine po 5 ?_
   refine po 6 ?_
   refine po 7 ?_
   refine po 8 ?_
   refine po 9 ?_
   refine po 10 ?_
   refine pu 11 ?_
   refine done_ (done_of HT_.out (by kernel_rfl)) ?_
   try go_wp2
   go_meet
   case rel => exact ⟨_, (false), (by first | rfl | (simp; done) | (simp [*]; done)), H', ⟨by first | omega | exact Nat.le_refl _⟩, ⟨by refine pv ?_; exact Kd.V_mono HO0_2.out (fun _ hk => ⟨hk.1.1, ⟨hk.1.2, hk.2⟩⟩)⟩, ⟨pk BK202.out⟩, ⟨pk BK203.out⟩, ⟨pb HB⟩⟩
  ·replace c39 := Bool.eq_false_iff.mpr c39
   subst c39
   have H1 : ((index_many.f k a0_0 a0_1 l0_2).bind fun t207 => (index_Put.j0 k a1 a2 t205 (decide ((wrap64 (2 * (wrap64 (t207 + 1)))) > (l0_2.length : Int))) a0_0 a0_1 l0_2)) = some (r1, r2, r3, r4) := by rw [if_neg (show ¬ (false = true) by decide)] at H; exact H
   clear H
   have H := H1
   clear H1
   replace H := Option.bind_eq_some_iff.mp H
   obtain ⟨t207, A410, H⟩ := H
   replace H : (index_Put.j0 k a1 a2 t205 (decide ((wrap64 (2 * (wrap64 (t207 + 1)))) > (l0_2.length : Int))) a0_0 a0_1 l0_2) = some (r1, r2, r3, r4) := H
   have A41 := am A410
   clear A410
   have H' := am H
   clear H
   try go_wp2
   replace HO0_2 := am (Kd.V_drew HO0_2.out)
   replace BK202 := am (blk_drew BK202.out)
   replace BK203 := am (blk_drew BK203.out)
   replace HB := am (below_drew1 HB.out)
   refine start_ (n := 12) (S := fun w' => w'.cell? ⟨gb202, 0, none⟩ = some (.int .u64 a0_0) ∧ w'.cell? ⟨gb202, 1, none⟩ = some (.int .u64 a0_1) ∧ w'.cell? ⟨gb202, 2, none⟩ = some (.slice A0_2 l0_2.length c0_2)) (ds := []) #[false, false, false, false, false, false, false, false, false, false, false, false] (by kernel_rfl) rfl rfl ⟨ce BK202 0, ce BK202 1, ce BK202 2⟩ (fun hHeld => ?_); refine with_tabW index_Put.tab8 index_Put.bits8 (fun HT_ HW_ => ?_)
   generalize w38.drew = w42 at HO0_2 BK202 BK203 HB hHeld ⊢
   refine pu 0 ?_
   refine pu 1 ?_
   refine pu 2 ?_
   refine pu 7 ?_
   refine ta 3 hHeld ?_
   refine ta 8 hHeld ?_
   refine pu 9 ?_
   refine on1 4 (fun K hK => ?_)
   refine gs Try.func26 #[.agg #[.int .u64 a0_0, .int .u64 a0_1, .slice A0_2 l0_2.length c0_2]] ?_
   with_reducible refine (index_many.calls k a0_0 a0_1 _ _ l0_2 t207 _ ?side1 ?side2 A41.out).mono ?_
   (case side1 => repeat (first | exact (Kd.V_reads' HO0_2.out).2.2 | (with_reducible refine Kd.C_alloc ?_ _) | (with_reducible refine Kd.C_drewN ?_ _) | (with_reducible refine Kd.C_drew ?_)))
   (case side2 => exact (Kd.V_reads' HO0_2.out).2.1)
   rintro e w43 ⟨rfl, hb⟩
   refine ⟨_, rfl, ?_⟩
   replace HO0_2 := am (Kd.V_below (pv HO0_2.out) hb)
   replace BK202 := am (blk_below (pk BK202.out) hb)
   replace BK203 := am (blk_below (pk BK203.out) hb)
   replace HB := am (below_step (pb HB) hb)
   (try clear hb)
   (try clear hb2)
   (try clear hk)
   (try clear hi)
   refine hK.out _ _ ⟨ce BK202 0, ce BK202 1, ce BK202 2⟩ (fun hHeld => ?_)
   clear hK K
   refine nm ?_
   refine pu 5 ?_
   refine pu 6 ?_
   refine pu 10 ?_
   refine pu 11 ?_
   refine done_ (done_of HT_.out (by kernel_rfl)) ?_
   try go_wp2
   go_meet
   case rel => exact ⟨_, (decide ((wrap64 (2 * (wrap64 (t207 + 1)))) > (l0_2.length : Int))), (by first | rfl | (simp; done) | (simp [*]; done)), H', ⟨by first | omega | exact Nat.le_refl _⟩, ⟨by refine pv ?_; exact Kd.V_mono HO0_2.out (fun _ hk => ⟨hk.1.1, ⟨hk.1.2, hk.2⟩⟩)⟩, ⟨pk BK202.out⟩, ⟨pk BK203.out⟩, ⟨pb HB⟩⟩
 case rest =>
  clear HC31
  try clear c1
  try clear c2
  try clear p2
  try clear c3
  try clear c5
  try clear c6
  try clear c6b0
  try clear c6b1
  try clear p6
  try clear c9
  try clear c13
  try clear c14
  try clear c14b0
  try clear c15
  try clear c17
  try clear c22
  try clear c22b0
  try clear c25
  try clear c26
  try clear c34
  try clear c39
  try clear hcz10_0 hcz10_1 hcz10_2
  try clear hcz12_0 hcz12_1 hcz12_2
  try clear hcz13_0 hcz13_1 hcz13_2
  try clear hcz18_0 hcz18_1 hcz18_2
  try clear hcz20_0 hcz20_1 hcz20_2
  try clear hcz21_0 hcz21_1 hcz21_2
  try clear hcz26_0 hcz26_1 hcz26_2
  try clear hcz28_0 hcz28_1 hcz28_2
  try clear hcz29_0 hcz29_1 hcz29_2
  try clear hcz35_0 hcz35_1 hcz35_2
  try clear hcz37_0 hcz37_1 hcz37_2
  try clear hfz10_0 hfz10_1 hfz10_2
  try clear hfz12_0 hfz12_1 hfz12_2
  try clear hfz13_0 hfz13_1 hfz13_2
  try clear hfz18_0 hfz18_1 hfz18_2
  try clear hfz20_0 hfz20_1 hfz20_2
  try clear hfz21_0 hfz21_1 hfz21_2
  try clear hfz26_0 hfz26_1 hfz26_2
  try clear hfz28_0 hfz28_1 hfz28_2
  try clear hfz29_0 hfz29_1 hfz29_2
  try clear hfz35_0 hfz35_1 hfz35_2
  try clear hfz37_0 hfz37_1 hfz37_2
  obtain ⟨kq, x46_30, rfl, HA, HJ30, HO_203002, BK202, BK203, HB⟩ := hcut
  cases kq with
  | zero => exact absurd HA.out (by simp [index_Put.j0])
  | succ kj30 =>
   have H := HA.out
   clear HA
   simp only [index_Put.j0] at H
   by_cases c44 : x46_30 = true
   ·subst c44
    have H1 : (if (l0_2.length : Int) = 4096 then (some (a0_0, a0_1, l0_2, 1)) else ((index_grown.f kj30 a0_0 a0_1 l0_2).bind fun bt208 => ((index_walk.f kj30 bt208.1 bt208.2.1 bt208.2.2 a1).bind fun bt213 => ((index_Slot_28.f bt208.2.2).bind fun t215 => (if 0 ≤ bt213.1 then (if bt213.1 < (t215.length : Int) then (some (bt208.1, bt208.2.1, (t215.set (bt213.1 : Int).toNat (⟨true, a1, a2⟩ : S60)), 0)) else (none)) else (none)))))) = some (r1, r2, r3, r4) := by rw [if_pos rfl] at H; exact H
    clear H
    have H := H1
    clear H1
    by_cases c45 : (l0_2.length : Int) = 4096
    ·rw [if_pos c45] at H
     have c45b0 : ((l0_2.length : Int) == 4096) = true := beq_iff_eq.mpr c45
     have c45b1 : ((l0_2.length : Int) != 4096) = false := bne_eq_false_iff_eq.mpr c45
     clear c45
     simp only [Option.some.injEq, Prod.mk.injEq] at H
     obtain ⟨rfl, rfl, rfl, rfl⟩ := H
     have hnb46 := NB202_203.out
     have hnc46 := NB203_202.out
     have hcz47_0 := ce BK202 0
     have hcz47_1 := ce BK202 1
     have hcz47_2 := ce BK202 2
     have hfz47_0 := fz BK202 0
     have hfz47_1 := fz BK202 1
     have hfz47_2 := fz BK202 2
     have hcz48_0 := ce BK203 0
     have hcz48_1 := ce BK203 1
     have hcz48_2 := ce BK203 2
     have hfz48_0 := fz BK203 0
     have hfz48_1 := fz BK203 1
     have hfz48_2 := fz BK203 2
     go_wp2
     refine bodyPost_ret (results_ct rfl _ _ gb203 27 #[.int .u64 a0_0, .int .u64 a0_1, .slice A0_2 l0_2.length c0_2] (0, 0) _ rfl (by refine pk ?_; refine blk_put (cs := #[.int .u64 a0_0, .int .u64 a0_1, .slice none 0 0]) ?_ 2 _ rfl; refine pk ?_; refine blk_put (cs := #[.int .u64 a0_0, .int .u64 0, .slice none 0 0]) ?_ 1 _ rfl; refine pk ?_; refine blk_put (cs := #[.int .u64 0, .int .u64 0, .slice none 0 0]) ?_ 0 _ rfl; refine pk ?_; exact BK203.out) Try.underlying27 rfl (by kernel_rfl)) rfl ?_
     exact ⟨_, by first | rfl | (simp [errW_none, errW_some] <;> rfl) | (simp [*, errW_none, errW_some] <;> rfl), by refine pv ?_; exact Kd.V_mono (Kd.V_far (p := ⟨gb203, 2, none⟩) (Kd.V_far (p := ⟨gb203, 1, none⟩) (Kd.V_far (p := ⟨gb203, 0, none⟩) (Kd.V_mono HO_203002.out (fun k_ hk => (⟨hk, hk.2.2⟩ : _ ∧ k_ ≠ gb203))) (fun _ hk => hk.2) (.int .u64 a0_0)) (fun _ hk => hk.2) (.int .u64 a0_1)) (fun _ hk => hk.2) (.slice A0_2 l0_2.length c0_2)) (fun _ hk => hk.1.1), pb HB⟩
    ·rw [if_neg c45] at H
     have c45b0 : ((l0_2.length : Int) == 4096) = false := beq_eq_false_iff_ne.mpr c45
     have c45b1 : ((l0_2.length : Int) != 4096) = true := bne_iff_ne.mpr c45
     replace H := Option.bind_eq_some_iff.mp H
     obtain ⟨⟨t208, t209, t210⟩, A490, H⟩ := H
     replace H : ((index_walk.f kj30 t208 t209 t210 a1).bind fun bt213 => ((index_Slot_28.f t210).bind fun t215 => (if 0 ≤ bt213.1 then (if bt213.1 < (t215.length : Int) then (some (t208, t209, (t215.set (bt213.1 : Int).toNat (⟨true, a1, a2⟩ : S60)), 0)) else (none)) else (none)))) = some (r1, r2, r3, r4) := H
     have A49 := am A490
     clear A490
     replace H := Option.bind_eq_some_iff.mp H
     obtain ⟨⟨t213, t214⟩, A500, H⟩ := H
     replace H : ((index_Slot_28.f t210).bind fun t215 => (if 0 ≤ t213 then (if t213 < (t215.length : Int) then (some (t208, t209, (t215.set (t213 : Int).toNat (⟨true, a1, a2⟩ : S60)), 0)) else (none)) else (none))) = some (r1, r2, r3, r4) := H
     have A50 := am A500
     clear A500
     replace H := Option.bind_eq_some_iff.mp H
     obtain ⟨t215, A510, H⟩ := H
     replace H : (if 0 ≤ t213 then (if t213 < (t215.length : Int) then (some (t208, t209, (t215.set (t213 : Int).toNat (⟨true, a1, a2⟩ : S60)), 0)) else (none)) else (none)) = some (r1, r2, r3, r4) := H
     have A51 := am A510
     clear A510
     by_cases c52 : 0 ≤ t213
     ·rw [if_pos c52] at H
      have c52b0 : decide (0 ≤ t213) = true := decide_eq_true c52
      clear c52
      by_cases c53 : t213 < (t215.length : Int)
      ·rw [if_pos c53] at H
       have c53b0 : decide (t213 < (t215.length : Int)) = true := decide_eq_true c53
       clear c53
       obtain ⟨y219, hy219⟩ : ∃ y_ : List (S60), y_ = (t215.set (t213 : Int).toNat (⟨true, a1, a2⟩ : S60)) := ⟨_, rfl⟩
       replace H : (some (t208, t209, y219, 0)) = some (r1, r2, r3, r4) := by first | (rw [hy219]; with_reducible exact H) | (have H2_ := (Option.bind_some _ _).symm.trans H; rw [hy219]; with_reducible exact H2_) | (have H2_ := (Option.bind_some _ _).symm.trans H; with_reducible exact H2_) | with_reducible exact H | (rw [hy219]; exact H) | exact H
       have Ny219 := am hy219
       clear hy219
       simp only [Option.some.injEq, Prod.mk.injEq] at H
       obtain ⟨rfl, rfl, rfl, rfl⟩ := H
       have hnb55 := NB202_203.out
       have hnc55 := NB203_202.out
       have hcz56_0 := ce BK202 0
       have hcz56_1 := ce BK202 1
       have hcz56_2 := ce BK202 2
       have hfz56_0 := fz BK202 0
       have hfz56_1 := fz BK202 1
       have hfz56_2 := fz BK202 2
       try go_wp2_with (first | ((with_reducible refine gate_callee (f := 27) rfl ?_); refine gl (some 53) Try.func27 #[.agg #[.int .u64 a0_0, .int .u64 a0_1, .slice A0_2 l0_2.length c0_2]] ?_; (with_reducible refine (index_grown.calls kj30 a0_0 a0_1 _ _ l0_2 t208 t209 t210 _ ?side1 ?side2 A49.out).mono ?_); (case side1 => repeat (first | exact (Kd.V_reads' HO_203002.out).2.2 | (with_reducible refine Kd.C_alloc ?_ _) | (with_reducible refine Kd.C_drewN ?_ _) | (with_reducible refine Kd.C_drew ?_))); (case side2 => exact (Kd.V_reads' HO_203002.out).2.1); rintro e w57 ⟨v211, rfl, ho0, hb⟩; refine ⟨_, rfl, ?_⟩; replace HO_203002 := am (Kd.V_elder' (pv HO_203002.out) (Kd.R_base ho0) hb); have HO212 := am (Kd.R_lower (Kd.R_newM (M := fun k_ => (w.heap.size ≤ k_)) ho0 (below_size (pb HB)) (fun k_ h_ => h_)) (below_size (pb HB))); replace BK202 := am (blk_below (pk BK202.out) hb); replace BK203 := am (blk_below (pk BK203.out) hb); replace HB := am (below_step (pb HB) hb); (try clear hb); (try clear hb2); (try clear hk); (try clear hi); (try clear ho0); have hcz58_0 := ce BK202 0; have hcz58_1 := ce BK202 1; have hcz58_2 := ce BK202 2; have hfz58_0 := fz BK202 0; have hfz58_1 := fz BK202 1; have hfz58_2 := fz BK202 2; obtain ⟨Ao59, co59, eo59⟩ := Kd.R_slice HO212.out; subst eo59) | ((with_reducible refine gate_callee (f := 25) rfl ?_); refine gl (some 57) Try.func25 #[.agg #[.int .u64 t208, .int .u64 t209, .slice Ao59 t210.length co59], .string a1] ?_; (with_reducible refine (index_walk.calls kj30 t208 t209 _ _ t210 a1 t213 t214 _ ?side1 ?side2 A50.out).mono ?_); (case side1 => refine (Kd.R_reads' (e := 60) (base := w.heap.size) (ok := fun k_ => ((w.heap.size ≤ k_) ∧ True)) (n := t210.length) (c := co59) ?_).2.2; exact (pr ((Kd.R_mono (Kd.R_far (p := ⟨gb202, 2, none⟩) (Kd.R_far (p := ⟨gb202, 1, none⟩) (Kd.R_far (p := ⟨gb202, 0, none⟩) (Kd.R_types HO212.out BK202.out (by decide)) (fun _ hk => hk.2) (.int .u64 t208)) (fun _ hk => hk.2) (.int .u64 t209)) (fun _ hk => hk.2) (.slice Ao59 t210.length co59)) (fun _ h_ => h_.1))))); (case side2 => exact (Kd.R_reads' HO212.out).2.1); rintro e w60 ⟨rfl, hb⟩; refine ⟨_, rfl, ?_⟩; replace HO_203002 := am (Kd.V_below (pv ((Kd.V_mono (Kd.V_far (p := ⟨gb202, 2, none⟩) (Kd.V_far (p := ⟨gb202, 1, none⟩) (Kd.V_far (p := ⟨gb202, 0, none⟩) (Kd.V_mono HO_203002.out (fun k_ hk => (⟨hk, hk.1.2.1⟩ : _ ∧ k_ ≠ gb202))) (fun _ hk => hk.2) (.int .u64 t208)) (fun _ hk => hk.2) (.int .u64 t209)) (fun _ hk => hk.2) (.slice Ao59 t210.length co59)) (fun _ h_ => h_.1)))) hb); replace HO212 := am (Kd.R_below (pr ((Kd.R_mono (Kd.R_far (p := ⟨gb202, 2, none⟩) (Kd.R_far (p := ⟨gb202, 1, none⟩) (Kd.R_far (p := ⟨gb202, 0, none⟩) (Kd.R_types HO212.out BK202.out (by decide)) (fun _ hk => hk.2) (.int .u64 t208)) (fun _ hk => hk.2) (.int .u64 t209)) (fun _ hk => hk.2) (.slice Ao59 t210.length co59)) (fun _ h_ => h_.1)))) hb); replace BK202 := am (blk_below (g := gb202) (o := .cells #[.int .u64 t208, .int .u64 t209, .slice Ao59 t210.length co59] 27 (0, 0)) (by refine pk ?_; refine blk_put (cs := #[.int .u64 t208, .int .u64 t209, .slice A0_2 l0_2.length c0_2]) ?_ 2 _ rfl; refine pk ?_; refine blk_put (cs := #[.int .u64 t208, .int .u64 a0_1, .slice A0_2 l0_2.length c0_2]) ?_ 1 _ rfl; refine pk ?_; refine blk_put (cs := #[.int .u64 a0_0, .int .u64 a0_1, .slice A0_2 l0_2.length c0_2]) ?_ 0 _ rfl; refine pk ?_; exact BK202.out) hb); replace BK203 := am (blk_below (g := gb203) (o := .cells #[.int .u64 0, .int .u64 0, .slice none 0 0] 27 (0, 0)) (by refine pk ?_; refine blk_far ?_ NB203_202.out _; refine pk ?_; refine blk_far ?_ NB203_202.out _; refine pk ?_; refine blk_far ?_ NB203_202.out _; refine pk ?_; exact BK203.out) hb); replace HB := am (below_step (pb HB) hb); (try clear hb); (try clear hb2); (try clear hk); (try clear hi)))
       replace HO_203002 := am (Kd.V_drew HO_203002.out)
       replace HO212 := am (Kd.R_drew HO212.out)
       replace BK202 := am (blk_drew BK202.out)
       replace BK203 := am (blk_drew BK203.out)
       replace HB := am (below_drew1 HB.out)
       refine start_ (n := 8) (S := fun w' => w'.cell? ⟨gb202, 0, none⟩ = some (.int .u64 t208) ∧ w'.cell? ⟨gb202, 1, none⟩ = some (.int .u64 t209) ∧ w'.cell? ⟨gb202, 2, none⟩ = some (.slice Ao59 t210.length co59)) (ds := []) #[false, false, false, false, false, false, false, false] (by kernel_rfl) rfl rfl ⟨ce BK202 0, ce BK202 1, ce BK202 2⟩ (fun hHeld => ?_); refine with_tabW index_Put.tab13 index_Put.bits13 (fun HT_ HW_ => ?_)
       generalize w60.drew = w61 at HO_203002 HO212 BK202 BK203 HB hHeld ⊢
       refine pu 0 ?_
       refine pu 2 ?_
       refine ta 1 hHeld ?_
       refine ta 3 hHeld ?_
       refine join_ (σ := Value × Nat) 1 #[true, true, true, true, true, true, true, false] (fun s_ => [(64, s_.1), (10, .pointer (some ⟨s_.2, 0, none⟩)), (65, .agg #[.int .u64 t208, .int .u64 t209, s_.1])]) (fun s_ w' => (w'.cell? ⟨gb202, 0, none⟩ = some (.int .u64 t208) ∧ w'.cell? ⟨gb202, 1, none⟩ = some (.int .u64 t209) ∧ w'.cell? ⟨gb202, 2, none⟩ = some (.slice Ao59 t210.length co59)) ∧ (Kd.R k60 60 w' w.heap.size (fun k_ => (w.heap.size ≤ k_) ∧ some k_ ≠ (s_.1 : Value).ownBlock) (.slice Ao59 t210.length co59) t210) ∧ (Kd.R k60 60 w' w.heap.size (fun k_ => (w.heap.size ≤ k_) ∧ some k_ ≠ (.slice Ao59 t210.length co59 : Value).ownBlock) s_.1 t215) ∧ (Kd.V k60 60 w' w.heap.size (fun k_ => (P0_2_ k_ ∨ w.heap.size ≤ k_) ∧ some k_ ≠ (.slice Ao59 t210.length co59 : Value).ownBlock ∧ some k_ ≠ (s_.1 : Value).ownBlock ∧ k_ ≠ gb202 ∧ k_ ≠ gb203 ∧ k_ ≠ s_.2) (.slice A0_2 l0_2.length c0_2) l0_2) ∧ (w'.heap[gb202]? = some (.cells #[.int .u64 t208, .int .u64 t209, .slice Ao59 t210.length co59] 27 (0, 0))) ∧ (w'.heap[gb203]? = some (.cells #[.int .u64 0, .int .u64 0, .slice none 0 0] 27 (0, 0))) ∧ (w'.heap[s_.2]? = some (.cells #[.int .u64 0, .int .u64 0, .slice none 0 0] 27 (0, 0))) ∧ (w.heap.size ≤ s_.2) ∧ (w.heap.size ≤ s_.2) ∧ (gb202 ≠ s_.2) ∧ (s_.2 ≠ gb202) ∧ (gb203 ≠ s_.2) ∧ (s_.2 ≠ gb203) ∧ (Below w.heap.size w w')) ?_ ?_
       rotate_left
       ·intro hCont
        refine two_ (i := 4) (j := 6) (Ni := some 64) (Nj := some 10) #[true, true, true, true, true, false, false, false] #[true, true, true, true, false, false, true, false] rfl rfl rfl rfl (two_of HT_.out (by kernel_rfl)) (by decide) (by decide) (fun K hK => ?_) (fun K hK => ?_)
        ·skip
         refine gs Try.func28 #[.slice Ao59 t210.length co59] ?_
         with_reducible refine (index_Slot_28.calls _ _ t210 t215 _ ?side1 ?side2 A51.out).mono ?_
         (case side1 => repeat (first | exact (Kd.R_reads' HO212.out).2.2 | (with_reducible refine Kd.C_alloc ?_ _) | (with_reducible refine Kd.C_drewN ?_ _) | (with_reducible refine Kd.C_drew ?_)))
         (case side2 => exact (Kd.R_reads' HO212.out).2.1)
         rintro e w62 ⟨v216, rfl, ho0, hb⟩
         refine ⟨_, rfl, ?_⟩
         have n0_ := am (Kd.V_elder' (pv HO_203002.out) (Kd.R_base ho0) hb)
         have n1_ := am (Kd.R_elder' (pr HO212.out) (Kd.R_base ho0) hb)
         have n2_ := am (Kd.R_lower (Kd.R_new' (Kd.R_newM (M := fun k_ => (w.heap.size ≤ k_)) ho0 (below_size (pb HB)) (fun k_ h_ => h_)) (Kd.R_lt (pr HO212.out))) (below_size (pb HB)))
         have n3_ := am (blk_below (pk BK202.out) hb)
         have n4_ := am (blk_below (pk BK203.out) hb)
         have n5_ := am (below_step (pb HB) hb)
         clear HO_203002 HO212 BK202 BK203 HB
         have HO_203002 := n0_
         have HO212 := n1_
         have HO217 := n2_
         have BK202 := n3_
         have BK203 := n4_
         have HB := n5_
         clear n0_ n1_ n2_ n3_ n4_ n5_
         (try clear hb)
         (try clear hb2)
         (try clear hk)
         (try clear hi)
         (try clear ho0)
         obtain ⟨Ao63, co63, eo63⟩ := Kd.R_slice HO217.out
         (first | subst eo63 | (injection eo63 with f1_ f2_ f3_; have f4_ := f1_.symm; have f5_ := f3_.symm; clear f1_ f2_ f3_; subst f4_; subst f5_))
         refine hK.out _ _ ⟨ce BK202 0, ce BK202 1, ce BK202 2⟩ (fun hHeld => ?_)
         clear hK K
         refine nm ?_
         refine pu 5 ?_
         refine on1 6 (fun K hK => ?_)
         refine bx 10 #[.int .u64 0, .int .u64 0, .slice none 0 0] 27 ?_
         intro gb218 hg w64 hbox hb
         have n0_ := am (Kd.V_below (Kd.V_elderB (pv HO_203002.out) gb218 (Nat.le_of_eq hg.symm)) hb)
         have n1_ := am (Kd.R_below (pr HO212.out) hb)
         have n2_ := am (Kd.R_below (pr HO217.out) hb)
         have n3_ := am (blk_below (pk BK202.out) hb)
         have n4_ := am (blk_below (pk BK203.out) hb)
         have n5_ := am (below_step (pb HB) hb)
         have n6_ := am (hbox)
         have n7_ := am ((pg hg HB : w.heap.size ≤ gb218))
         have n8_ := am ((pg hg HB : w.heap.size ≤ gb218))
         have n9_ := am ((pl hg (pk BK202.out) : gb202 ≠ gb218))
         have n10_ := am ((pl' hg (pk BK202.out) : gb218 ≠ gb202))
         have n11_ := am ((pl hg (pk BK203.out) : gb203 ≠ gb218))
         have n12_ := am ((pl' hg (pk BK203.out) : gb218 ≠ gb203))
         clear HO_203002 HO212 HO217 BK202 BK203 HB
         have HO_203002 := n0_
         have HO212 := n1_
         have HO217 := n2_
         have BK202 := n3_
         have BK203 := n4_
         have HB := n5_
         have BK218 := n6_
         have GW218 := n7_
         have GE218 := n8_
         have NB202_218 := n9_
         have NB218_202 := n10_
         have NB203_218 := n11_
         have NB218_203 := n12_
         clear n0_ n1_ n2_ n3_ n4_ n5_ n6_ n7_ n8_ n9_ n10_ n11_ n12_ hb hbox hg
         refine hK.out _ _ ⟨ce BK202 0, ce BK202 1, ce BK202 2⟩ (fun hHeld => ?_)
         clear hK K
         refine nm ?_
         exact nj (hCont (.slice Ao63 t215.length co63, gb218) _ ⟨hHeld, (pr (Kd.R_mono HO212.out (fun _ hk => ⟨hk.1.1, hk.2⟩))), (pr (Kd.R_mono HO217.out (fun _ hk => ⟨hk.1.1, hk.2⟩))), (pv (Kd.V_mono HO_203002.out (fun _ hk => ⟨hk.1.1.1.1, ⟨hk.1.1.2, ⟨hk.1.2, ⟨hk.1.1.1.2.1, ⟨hk.1.1.1.2.2, hk.2⟩⟩⟩⟩⟩))), (pk BK202.out), (pk BK203.out), (pk BK218.out), GW218.out, GE218.out, NB202_218.out, NB218_202.out, NB203_218.out, NB218_203.out, (pb HB)⟩)
        ·skip
         refine bx 10 #[.int .u64 0, .int .u64 0, .slice none 0 0] 27 ?_
         intro gb218 hg w62 hbox hb
         have n0_ := am (Kd.V_below (Kd.V_elderB (pv HO_203002.out) gb218 (Nat.le_of_eq hg.symm)) hb)
         have n1_ := am (Kd.R_below (pr HO212.out) hb)
         have n2_ := am (blk_below (pk BK202.out) hb)
         have n3_ := am (blk_below (pk BK203.out) hb)
         have n4_ := am (below_step (pb HB) hb)
         have n5_ := am (hbox)
         have n6_ := am ((pg hg HB : w.heap.size ≤ gb218))
         have n7_ := am ((pg hg HB : w.heap.size ≤ gb218))
         have n8_ := am ((pl hg (pk BK202.out) : gb202 ≠ gb218))
         have n9_ := am ((pl' hg (pk BK202.out) : gb218 ≠ gb202))
         have n10_ := am ((pl hg (pk BK203.out) : gb203 ≠ gb218))
         have n11_ := am ((pl' hg (pk BK203.out) : gb218 ≠ gb203))
         clear HO_203002 HO212 BK202 BK203 HB
         have HO_203002 := n0_
         have HO212 := n1_
         have BK202 := n2_
         have BK203 := n3_
         have HB := n4_
         have BK218 := n5_
         have GW218 := n6_
         have GE218 := n7_
         have NB202_218 := n8_
         have NB218_202 := n9_
         have NB203_218 := n10_
         have NB218_203 := n11_
         clear n0_ n1_ n2_ n3_ n4_ n5_ n6_ n7_ n8_ n9_ n10_ n11_ hb hbox hg
         refine hK.out _ _ ⟨ce BK202 0, ce BK202 1, ce BK202 2⟩ (fun hHeld => ?_)
         clear hK K
         refine nm ?_
         refine on1 4 (fun K hK => ?_)
         refine gs Try.func28 #[.slice Ao59 t210.length co59] ?_
         with_reducible refine (index_Slot_28.calls _ _ t210 t215 _ ?side1 ?side2 A51.out).mono ?_
         (case side1 => repeat (first | exact (Kd.R_reads' HO212.out).2.2 | (with_reducible refine Kd.C_alloc ?_ _) | (with_reducible refine Kd.C_drewN ?_ _) | (with_reducible refine Kd.C_drew ?_)))
         (case side2 => exact (Kd.R_reads' HO212.out).2.1)
         rintro e w63 ⟨v216, rfl, ho0, hb⟩
         refine ⟨_, rfl, ?_⟩
         have n0_ := am (Kd.V_elder' (pv HO_203002.out) (Kd.R_base ho0) hb)
         have n1_ := am (Kd.R_elder' (pr HO212.out) (Kd.R_base ho0) hb)
         have n2_ := am (Kd.R_lower (Kd.R_new' (Kd.R_newM (M := fun k_ => (w.heap.size ≤ k_)) ho0 (below_size (pb HB)) (fun k_ h_ => h_)) (Kd.R_lt (pr HO212.out))) (below_size (pb HB)))
         have n3_ := am (blk_below (pk BK202.out) hb)
         have n4_ := am (blk_below (pk BK203.out) hb)
         have n5_ := am (blk_below (pk BK218.out) hb)
         have n6_ := am (below_step (pb HB) hb)
         clear HO_203002 HO212 BK202 BK203 BK218 HB
         have HO_203002 := n0_
         have HO212 := n1_
         have HO217 := n2_
         have BK202 := n3_
         have BK203 := n4_
         have BK218 := n5_
         have HB := n6_
         clear n0_ n1_ n2_ n3_ n4_ n5_ n6_
         (try clear hb)
         (try clear hb2)
         (try clear hk)
         (try clear hi)
         (try clear ho0)
         obtain ⟨Ao64, co64, eo64⟩ := Kd.R_slice HO217.out
         (first | subst eo64 | (injection eo64 with f1_ f2_ f3_; have f4_ := f1_.symm; have f5_ := f3_.symm; clear f1_ f2_ f3_; subst f4_; subst f5_))
         refine hK.out _ _ ⟨ce BK202 0, ce BK202 1, ce BK202 2⟩ (fun hHeld => ?_)
         clear hK K
         refine nm ?_
         refine pu 5 ?_
         exact nj (hCont (.slice Ao64 t215.length co64, gb218) _ ⟨hHeld, (pr (Kd.R_mono HO212.out (fun _ hk => ⟨hk.1.1, hk.2⟩))), (pr (Kd.R_mono HO217.out (fun _ hk => ⟨hk.1.1, hk.2⟩))), (pv (Kd.V_mono HO_203002.out (fun _ hk => ⟨hk.1.1.1.1, ⟨hk.1.1.2, ⟨hk.2, ⟨hk.1.1.1.2.1, ⟨hk.1.1.1.2.2, hk.1.2⟩⟩⟩⟩⟩))), (pk BK202.out), (pk BK203.out), (pk BK218.out), GW218.out, GE218.out, NB202_218.out, NB218_202.out, NB203_218.out, NB218_203.out, (pb HB)⟩)
       rintro ⟨v216, gb218⟩ w65 ⟨hS_, h0_, h1_, h2_, h3_, h4_, h5_, h6_, h7_, h8_, h9_, h10_, h11_, h12_⟩
       replace HO212 : Aside0 (Kd.R k60 60 w65 w.heap.size (fun k_ => (w.heap.size ≤ k_) ∧ some k_ ≠ (v216 : Value).ownBlock) (.slice Ao59 t210.length co59) t210) := ⟨h0_⟩
       have HO217 : Aside0 (Kd.R k60 60 w65 w.heap.size (fun k_ => (w.heap.size ≤ k_) ∧ some k_ ≠ (.slice Ao59 t210.length co59 : Value).ownBlock) v216 t215) := ⟨h1_⟩
       replace HO_203002 : Aside0 (Kd.V k60 60 w65 w.heap.size (fun k_ => (P0_2_ k_ ∨ w.heap.size ≤ k_) ∧ some k_ ≠ (.slice Ao59 t210.length co59 : Value).ownBlock ∧ some k_ ≠ (v216 : Value).ownBlock ∧ k_ ≠ gb202 ∧ k_ ≠ gb203 ∧ k_ ≠ gb218) (.slice A0_2 l0_2.length c0_2) l0_2) := ⟨h2_⟩
       replace BK202 : Aside0 (w65.heap[gb202]? = some (.cells #[.int .u64 t208, .int .u64 t209, .slice Ao59 t210.length co59] 27 (0, 0))) := ⟨h3_⟩
       replace BK203 : Aside0 (w65.heap[gb203]? = some (.cells #[.int .u64 0, .int .u64 0, .slice none 0 0] 27 (0, 0))) := ⟨h4_⟩
       have BK218 : Aside0 (w65.heap[gb218]? = some (.cells #[.int .u64 0, .int .u64 0, .slice none 0 0] 27 (0, 0))) := ⟨h5_⟩
       have GW218 : Aside0 (w.heap.size ≤ gb218) := ⟨h6_⟩
       have GE218 : Aside0 (w.heap.size ≤ gb218) := ⟨h7_⟩
       have NB202_218 : Aside0 (gb202 ≠ gb218) := ⟨h8_⟩
       have NB218_202 : Aside0 (gb218 ≠ gb202) := ⟨h9_⟩
       have NB203_218 : Aside0 (gb203 ≠ gb218) := ⟨h10_⟩
       have NB218_203 : Aside0 (gb218 ≠ gb203) := ⟨h11_⟩
       replace HB : Aside0 (Below w.heap.size w w65) := ⟨h12_⟩
       clear h0_ h1_ h2_ h3_ h4_ h5_ h6_ h7_ h8_ h9_ h10_ h11_ h12_
       have hHeld : w65.cell? ⟨gb202, 0, none⟩ = some (.int .u64 t208) ∧ w65.cell? ⟨gb202, 1, none⟩ = some (.int .u64 t209) ∧ w65.cell? ⟨gb202, 2, none⟩ = some (.slice Ao59 t210.length co59) := hS_
       obtain ⟨Ao66, co66, eo66⟩ := Kd.R_slice HO217.out
       (first | subst eo66 | (injection eo66 with f1_ f2_ f3_; have f4_ := f1_.symm; have f5_ := f3_.symm; clear f1_ f2_ f3_; subst f4_; subst f5_))
       refine norm_ (a' := ?_) ?_ ?_
       rotate_left
       ·simp only [putAll, Act.put, List.setIfInBounds_toArray, List.set_cons_zero, List.set_cons_succ]
        rfl
       refine one_ (i := 7) (N := none) #[true, true, true, true, true, true, true, true] rfl rfl (one_of HT_.out (by kernel_rfl)) (by decide) (fun K hK => ?_)
       have hs67 : w65.cell? ⟨gb218, 0, none⟩ = some (.int .u64 0) := ce BK218 0
       have hfs67 := blk_frozen BK218.out 0
       have hns67_0 := NB202_218.out
       have hns67_1 := NB203_218.out
       have hms67_0 := NB218_202.out
       have hms67_1 := NB218_203.out
       have hs68 : w65.cell? ⟨gb218, 1, none⟩ = some (.int .u64 0) := ce BK218 1
       have hfs68 := blk_frozen BK218.out 1
       have hns68_0 := NB202_218.out
       have hns68_1 := NB203_218.out
       have hms68_0 := NB218_202.out
       have hms68_1 := NB218_203.out
       have hs69 : w65.cell? ⟨gb218, 2, none⟩ = some (.slice none 0 0) := ce BK218 2
       have hfs69 := blk_frozen BK218.out 2
       have hns69_0 := NB202_218.out
       have hns69_1 := NB203_218.out
       have hms69_0 := NB218_202.out
       have hms69_1 := NB218_203.out
       refine skip_ (w1 := ?_) (by rfl) rfl ?_ ?_
       rotate_left
       ·go_simp
        rfl
       refine hK.out _ _ ⟨((cell_far (p := ⟨gb218, _, none⟩) NB202_218.out _).trans (((cell_far (p := ⟨gb218, _, none⟩) NB202_218.out _).trans (((cell_far (p := ⟨gb218, _, none⟩) NB202_218.out _).trans (hHeld.1)))))), ((cell_far (p := ⟨gb218, _, none⟩) NB202_218.out _).trans (((cell_far (p := ⟨gb218, _, none⟩) NB202_218.out _).trans (((cell_far (p := ⟨gb218, _, none⟩) NB202_218.out _).trans (hHeld.2.1)))))), ((cell_far (p := ⟨gb218, _, none⟩) NB202_218.out _).trans (((cell_far (p := ⟨gb218, _, none⟩) NB202_218.out _).trans (((cell_far (p := ⟨gb218, _, none⟩) NB202_218.out _).trans (hHeld.2.2))))))⟩ (fun hHeld => ?_)
       clear hK K
       refine done_ (done_of HT_.out (by kernel_rfl)) ?_
       have n0_ : Aside0 (Kd.V k60 60 (((w65.setCell ⟨gb218, 0, none⟩ (.int .u64 t208)).setCell ⟨gb218, 1, none⟩ (.int .u64 t209)).setCell ⟨gb218, 2, none⟩ (.slice Ao66 t215.length co66)) w.heap.size (fun k_ => (P0_2_ k_ ∨ w.heap.size ≤ k_) ∧ some k_ ≠ (.slice Ao59 t210.length co59 : Value).ownBlock ∧ some k_ ≠ (.slice Ao66 t215.length co66 : Value).ownBlock ∧ k_ ≠ gb202 ∧ k_ ≠ gb203 ∧ k_ ≠ gb218) (.slice A0_2 l0_2.length c0_2) l0_2) := ⟨by refine pv ?_; exact Kd.V_mono (Kd.V_far (p := ⟨gb218, 2, none⟩) (Kd.V_far (p := ⟨gb218, 1, none⟩) (Kd.V_far (p := ⟨gb218, 0, none⟩) (Kd.V_mono HO_203002.out (fun k_ hk => (⟨hk, hk.2.2.2.2.2⟩ : _ ∧ k_ ≠ gb218))) (fun _ hk => hk.2) (.int .u64 t208)) (fun _ hk => hk.2) (.int .u64 t209)) (fun _ hk => hk.2) (.slice Ao66 t215.length co66)) (fun _ hk => ⟨hk.1.1, ⟨hk.1.2.1, ⟨hk.1.2.2.1, ⟨hk.1.2.2.2.1, ⟨hk.1.2.2.2.2.1, hk.1.2.2.2.2.2⟩⟩⟩⟩⟩)⟩
       have n1_ : Aside0 (Kd.R k60 60 (((w65.setCell ⟨gb218, 0, none⟩ (.int .u64 t208)).setCell ⟨gb218, 1, none⟩ (.int .u64 t209)).setCell ⟨gb218, 2, none⟩ (.slice Ao66 t215.length co66)) w.heap.size (fun k_ => (w.heap.size ≤ k_) ∧ some k_ ≠ (.slice Ao66 t215.length co66 : Value).ownBlock) (.slice Ao59 t210.length co59) t210) := ⟨by refine pr ?_; exact Kd.R_mono (Kd.R_far (p := ⟨gb218, 2, none⟩) (Kd.R_far (p := ⟨gb218, 1, none⟩) (Kd.R_far (p := ⟨gb218, 0, none⟩) (Kd.R_types HO212.out BK218.out (by decide)) (fun _ hk => hk.2) (.int .u64 t208)) (fun _ hk => hk.2) (.int .u64 t209)) (fun _ hk => hk.2) (.slice Ao66 t215.length co66)) (fun _ hk => ⟨hk.1.1, hk.1.2⟩)⟩
       have n2_ : Aside0 (Kd.R k60 60 (((w65.setCell ⟨gb218, 0, none⟩ (.int .u64 t208)).setCell ⟨gb218, 1, none⟩ (.int .u64 t209)).setCell ⟨gb218, 2, none⟩ (.slice Ao66 t215.length co66)) w.heap.size (fun k_ => (w.heap.size ≤ k_) ∧ some k_ ≠ (.slice Ao59 t210.length co59 : Value).ownBlock) (.slice Ao66 t215.length co66) t215) := ⟨by refine pr ?_; exact Kd.R_mono (Kd.R_far (p := ⟨gb218, 2, none⟩) (Kd.R_far (p := ⟨gb218, 1, none⟩) (Kd.R_far (p := ⟨gb218, 0, none⟩) (Kd.R_types HO217.out BK218.out (by decide)) (fun _ hk => hk.2) (.int .u64 t208)) (fun _ hk => hk.2) (.int .u64 t209)) (fun _ hk => hk.2) (.slice Ao66 t215.length co66)) (fun _ hk => ⟨hk.1.1, hk.1.2⟩)⟩
       have n3_ : Aside0 ((((w65.setCell ⟨gb218, 0, none⟩ (.int .u64 t208)).setCell ⟨gb218, 1, none⟩ (.int .u64 t209)).setCell ⟨gb218, 2, none⟩ (.slice Ao66 t215.length co66)).heap[gb202]? = some (.cells #[.int .u64 t208, .int .u64 t209, .slice Ao59 t210.length co59] 27 (0, 0))) := ⟨by refine pk ?_; refine blk_far ?_ NB202_218.out _; refine pk ?_; refine blk_far ?_ NB202_218.out _; refine pk ?_; refine blk_far ?_ NB202_218.out _; refine pk ?_; exact BK202.out⟩
       have n4_ : Aside0 ((((w65.setCell ⟨gb218, 0, none⟩ (.int .u64 t208)).setCell ⟨gb218, 1, none⟩ (.int .u64 t209)).setCell ⟨gb218, 2, none⟩ (.slice Ao66 t215.length co66)).heap[gb203]? = some (.cells #[.int .u64 0, .int .u64 0, .slice none 0 0] 27 (0, 0))) := ⟨by refine pk ?_; refine blk_far ?_ NB203_218.out _; refine pk ?_; refine blk_far ?_ NB203_218.out _; refine pk ?_; refine blk_far ?_ NB203_218.out _; refine pk ?_; exact BK203.out⟩
       have n5_ : Aside0 ((((w65.setCell ⟨gb218, 0, none⟩ (.int .u64 t208)).setCell ⟨gb218, 1, none⟩ (.int .u64 t209)).setCell ⟨gb218, 2, none⟩ (.slice Ao66 t215.length co66)).heap[gb218]? = some (.cells #[.int .u64 t208, .int .u64 t209, .slice Ao66 t215.length co66] 27 (0, 0))) := ⟨by refine pk ?_; refine blk_put (cs := #[.int .u64 t208, .int .u64 t209, .slice none 0 0]) ?_ 2 _ rfl; refine pk ?_; refine blk_put (cs := #[.int .u64 t208, .int .u64 0, .slice none 0 0]) ?_ 1 _ rfl; refine pk ?_; refine blk_put (cs := #[.int .u64 0, .int .u64 0, .slice none 0 0]) ?_ 0 _ rfl; refine pk ?_; exact BK218.out⟩
       have n6_ : Aside0 (Below w.heap.size w (((w65.setCell ⟨gb218, 0, none⟩ (.int .u64 t208)).setCell ⟨gb218, 1, none⟩ (.int .u64 t209)).setCell ⟨gb218, 2, none⟩ (.slice Ao66 t215.length co66))) := ⟨pb HB⟩
       (try clear HO_203002)
       (try clear HO212)
       (try clear HO217)
       (try clear BK202)
       (try clear BK203)
       (try clear BK218)
       (try clear HB)
       generalize (((w65.setCell ⟨gb218, 0, none⟩ (.int .u64 t208)).setCell ⟨gb218, 1, none⟩ (.int .u64 t209)).setCell ⟨gb218, 2, none⟩ (.slice Ao66 t215.length co66)) = w70 at n0_ n1_ n2_ n3_ n4_ n5_ n6_ ⊢
       have HO_203002 := n0_
       have HO212 := n1_
       have HO217 := n2_
       have BK202 := n3_
       have BK203 := n4_
       have BK218 := n5_
       have HB := n6_
       clear n0_ n1_ n2_ n3_ n4_ n5_ n6_
       have hnb71 := NB218_202.out
       have hnc71 := NB202_218.out
       have hnb72 := NB218_203.out
       have hnc72 := NB203_218.out
       have hcz73_0 := ce BK218 0
       have hcz73_1 := ce BK218 1
       have hcz73_2 := ce BK218 2
       have hfz73_0 := fz BK218 0
       have hfz73_1 := fz BK218 1
       have hfz73_2 := fz BK218 2
       have p54 : 0 ≤ (t213 : Int) := of_decide_eq_true (by first | (with_reducible assumption) | assumption)
       have q54 : (t213 : Int) < ((t215.length : Int) : Int) := of_decide_eq_true (by first | (with_reducible assumption) | assumption)
       obtain ⟨go54, co54, eo54, gb54, gl54, cl54, HG54⟩ := Kd.R_form HO217.out (by omega)
       (first | cases eo54 | (injection eo54 with ea_ en_ ec_; (first | subst ea_ | (injection ea_ with ea_; subst ea_)); subst ec_; clear en_))
       have GB54 := am gb54
       have GG54 := am HG54
       clear gb54 gl54 HG54
       obtain ⟨ce54, hcl54, hM54, hcc54, hfr54⟩ := Kd.R_elem HO217.out z60 (t213 : Int) p54 q54
       obtain rfl := k60_openM hM54
       have hx54_0 : w70.cell? ⟨go54, (t213 : Int).toNat * 3, none⟩ = some (.bool ((rd_T60 t215 t213).f0)) := hcc54 0 _ rfl
       have hx54_1 : w70.cell? ⟨go54, (t213 : Int).toNat * 3 + 1, none⟩ = some (.string ((rd_T60 t215 t213).f1)) := hcc54 1 _ rfl
       have hx54_2 : w70.cell? ⟨go54, (t213 : Int).toNat * 3 + 2, none⟩ = some (.int .i64 ((rd_T60 t215 t213).f2)) := hcc54 2 _ rfl
       have hf54_0 : w70.frozen? ⟨go54, (t213 : Int).toNat * 3, none⟩ = false := hfr54 0
       have hf54_1 : w70.frozen? ⟨go54, (t213 : Int).toNat * 3 + 1, none⟩ = false := hfr54 1
       have hf54_2 : w70.frozen? ⟨go54, (t213 : Int).toNat * 3 + 2, none⟩ = false := hfr54 2
       clear hcl54 hcc54 hfr54 hM54
       replace p54 := eq_true p54
       replace q54 := eq_true q54
       have HX74 := am (show Kd.R k60 60 w70 w.heap.size (fun k_ => (w.heap.size ≤ k_) ∧ some k_ ≠ (.slice Ao59 t210.length co59 : Value).ownBlock) (.slice (some ⟨go54, 0, none⟩) t215.length co66) t215 from (pr HO217.out))
       obtain ⟨ce74, hcl74, hM74, hcc74, hfr74⟩ := Kd.R_elem HX74.out z60 (t213 : Int) (of_decide_eq_true (by first | (with_reducible assumption) | assumption)) (by have h_ : (t213 : Int) < ((t215.length : Int) : Int) := of_decide_eq_true (by first | (with_reducible assumption) | assumption); first | exact h_ | (have e_ := (Kd.R_reads' HO217.out).1; omega) | simpa using h_)
       obtain rfl := k60_openM hM74
       have HP74 := Kd.R_seg HX74.out (t213 : Int) (of_decide_eq_true (by first | (with_reducible assumption) | assumption)) (by have h_ : (t213 : Int) < ((t215.length : Int) : Int) := of_decide_eq_true (by first | (with_reducible assumption) | assumption); first | exact h_ | (have e_ := (Kd.R_reads' HO217.out).1; omega) | simpa using h_) (seg := [.bool true, .string a1, .int .i64 a2]) (j := 0) hcl74 hcc74 (show 3 ≤ 3 from by decide) (x' := (⟨true, a1, a2⟩ : S60)) (k60_mkM _ _ _ (⟨true, a1, a2⟩ : S60) ) (fun _ hk => hk)
       have hx74_0 := hcc74 0 _ rfl
       (try simp only [show (k60).sz = 3 from rfl, Nat.mul_one, Nat.add_zero] at hx74_0)
       have hf74_0 := hfr74 0
       (try simp only [show (k60).sz = 3 from rfl, Nat.mul_one, Nat.add_zero] at hf74_0)
       have hx74_1 := hcc74 1 _ rfl
       (try simp only [show (k60).sz = 3 from rfl, Nat.mul_one, Nat.add_zero] at hx74_1)
       have hf74_1 := hfr74 1
       (try simp only [show (k60).sz = 3 from rfl, Nat.mul_one, Nat.add_zero] at hf74_1)
       have hx74_2 := hcc74 2 _ rfl
       (try simp only [show (k60).sz = 3 from rfl, Nat.mul_one, Nat.add_zero] at hx74_2)
       have hf74_2 := hfr74 2
       (try simp only [show (k60).sz = 3 from rfl, Nat.mul_one, Nat.add_zero] at hf74_2)
       clear hcl74 hcc74 hfr74 hM74
       try go_wp2_with (first | ((with_reducible refine gate_store (t := 60) (p := 72) rfl ?_); refine store_event (t := 60) (p := 72) (v := ?vo_w75) (w1 := (((w70.setCell ⟨go54, (t213 : Int).toNat * 3, none⟩ (.bool true)).setCell ⟨go54, (t213 : Int).toNat * 3 + 1, none⟩ (.string a1)).setCell ⟨go54, (t213 : Int).toNat * 3 + 2, none⟩ (.int .i64 a2))) ?hg ?ho ?hn ?hr ?_; (case ho => rfl); (case hg => rfl); (case hn => rfl); (case hr => first | (go_simp; done) | (go_simp; rfl)); intro w75 hw; have hg : w70.grownBy w75 (some go54) := (by rw [hw]; exact HP74.2); have hp_ : Kd.R k60 60 w75 w.heap.size (fun k_ => (w.heap.size ≤ k_) ∧ some k_ ≠ (.slice Ao59 t210.length co59 : Value).ownBlock) (.slice (some ⟨go54, 0, none⟩) t215.length co66) y219 := (by rw [hw, Ny219.out]; exact HP74.1); clear HP74; have n0_ := am (Kd.V_afterv (v := (.slice (some ⟨go54, 0, none⟩) t215.length co66)) (v1 := (.slice (some ⟨go54, 0, none⟩) t215.length co66)) (ok := (fun k_ => (P0_2_ k_ ∨ w.heap.size ≤ k_) ∧ some k_ ≠ (.slice Ao59 t210.length co59 : Value).ownBlock ∧ k_ ≠ gb202 ∧ k_ ≠ gb203 ∧ k_ ≠ gb218)) (pv (Kd.V_mono HO_203002.out (fun _ hk => ⟨⟨hk.1, ⟨hk.2.1, ⟨hk.2.2.2.1, ⟨hk.2.2.2.2.1, hk.2.2.2.2.2⟩⟩⟩⟩, hk.2.2.1⟩))) hg (.inl rfl)); have n1_ := am (blk_grown (g := gb202) (o := .cells #[.int .u64 t208, .int .u64 t209, .slice Ao59 t210.length co59] 27 (0, 0)) (pk BK202.out) hg (Kd.R_ne HO217.out BK202.out (by decide))); have n2_ := am (blk_grown (g := gb203) (o := .cells #[.int .u64 0, .int .u64 0, .slice none 0 0] 27 (0, 0)) (pk BK203.out) hg (Kd.R_ne HO217.out BK203.out (by decide))); have n3_ := am (Kd.R_after (v := (.slice (some ⟨go54, 0, none⟩) t215.length co66)) (v1 := (.slice (some ⟨go54, 0, none⟩) t215.length co66)) (ok := (fun k_ => (w.heap.size ≤ k_))) (pr HO212.out) hg (.inl rfl)); have n4_ := am (hp_); have n5_ := am (blk_grown (g := gb218) (o := .cells #[.int .u64 t208, .int .u64 t209, .slice (some ⟨go54, 0, none⟩) t215.length co66] 27 (0, 0)) (pk BK218.out) hg (Kd.R_ne HO217.out BK218.out (by decide))); have n6_ := am ((by rw [hw]; exact below_set (below_set (below_set (HB.out) GB54.out) GB54.out) GB54.out : Below w.heap.size w w75)); clear HO_203002; clear BK202; clear BK203; clear HO212; clear HO217; clear BK218; clear HB; have HO_203002 := n0_; have BK202 := n1_; have BK203 := n2_; have HO212 := n3_; have HO217 := n4_; have BK218 := n5_; have HB := n6_; clear n0_ n1_ n2_ n3_ n4_ n5_ n6_; clear hg hw hp_; have hcz76_0 := ce BK218 0; have hcz76_1 := ce BK218 1; have hcz76_2 := ce BK218 2; have hfz76_0 := fz BK218 0; have hfz76_1 := fz BK218 1; have hfz76_2 := fz BK218 2; have hcz77_0 := ce BK203 0; have hcz77_1 := ce BK203 1; have hcz77_2 := ce BK203 2; have hfz77_0 := fz BK203 0; have hfz77_1 := fz BK203 1; have hfz77_2 := fz BK203 2))
       refine bodyPost_ret (results_ct rfl _ _ gb203 27 #[.int .u64 t208, .int .u64 t209, .slice (some ⟨go54, 0, none⟩) t215.length co66] (0, 0) _ rfl (by refine pk ?_; refine blk_put (cs := #[.int .u64 t208, .int .u64 t209, .slice none 0 0]) ?_ 2 _ rfl; refine pk ?_; refine blk_put (cs := #[.int .u64 t208, .int .u64 0, .slice none 0 0]) ?_ 1 _ rfl; refine pk ?_; refine blk_put (cs := #[.int .u64 0, .int .u64 0, .slice none 0 0]) ?_ 0 _ rfl; refine pk ?_; exact BK203.out) Try.underlying27 rfl (by kernel_rfl)) rfl ?_
       exact ⟨_, by first | rfl | (simp [errW_none, errW_some] <;> rfl) | (simp [*, errW_none, errW_some] <;> rfl), Kd.V_mono (Kd.R_V (pr (Kd.R_mono (Kd.R_far (p := ⟨gb203, 2, none⟩) (Kd.R_far (p := ⟨gb203, 1, none⟩) (Kd.R_far (p := ⟨gb203, 0, none⟩) (Kd.R_types HO217.out BK203.out (by decide)) (fun _ hk => hk.2) (.int .u64 t208)) (fun _ hk => hk.2) (.int .u64 t209)) (fun _ hk => hk.2) (.slice (some ⟨go54, 0, none⟩) t215.length co66)) (fun _ hk => hk.1.1)))) (fun k_ hk => by first | exact ⟨(.inr (hk.1)), hk.2⟩ | exact (.inr (hk))), pb HB⟩
      ·rw [if_neg c53] at H
       exact absurd H (by simp)
     ·rw [if_neg c52] at H
      exact absurd H (by simp)
   ·replace c44 := Bool.eq_false_iff.mpr c44
    subst c44
    have H1 : ((index_Slot_28.f l0_2).bind fun t220 => (if 0 ≤ t205 then (if t205 < (t220.length : Int) then (some (a0_0, a0_1, (t220.set (t205 : Int).toNat (⟨true, a1, a2⟩ : S60)), 0)) else (none)) else (none))) = some (r1, r2, r3, r4) := by rw [if_neg (show ¬ (false = true) by decide)] at H; exact H
    clear H
    have H := H1
    clear H1
    replace H := Option.bind_eq_some_iff.mp H
    obtain ⟨t220, A780, H⟩ := H
    replace H : (if 0 ≤ t205 then (if t205 < (t220.length : Int) then (some (a0_0, a0_1, (t220.set (t205 : Int).toNat (⟨true, a1, a2⟩ : S60)), 0)) else (none)) else (none)) = some (r1, r2, r3, r4) := H
    have A78 := am A780
    clear A780
    by_cases c79 : 0 ≤ t205
    ·rw [if_pos c79] at H
     have c79b0 : decide (0 ≤ t205) = true := decide_eq_true c79
     clear c79
     by_cases c80 : t205 < (t220.length : Int)
     ·rw [if_pos c80] at H
      have c80b0 : decide (t205 < (t220.length : Int)) = true := decide_eq_true c80
      clear c80
      obtain ⟨y224, hy224⟩ : ∃ y_ : List (S60), y_ = (t220.set (t205 : Int).toNat (⟨true, a1, a2⟩ : S60)) := ⟨_, rfl⟩
      replace H : (some (a0_0, a0_1, y224, 0)) = some (r1, r2, r3, r4) := by first | (rw [hy224]; with_reducible exact H) | (have H2_ := (Option.bind_some _ _).symm.trans H; rw [hy224]; with_reducible exact H2_) | (have H2_ := (Option.bind_some _ _).symm.trans H; with_reducible exact H2_) | with_reducible exact H | (rw [hy224]; exact H) | exact H
      have Ny224 := am hy224
      clear hy224
      simp only [Option.some.injEq, Prod.mk.injEq] at H
      obtain ⟨rfl, rfl, rfl, rfl⟩ := H
      try go_wp2
      replace HO_203002 := am (Kd.V_drew HO_203002.out)
      replace BK202 := am (blk_drew BK202.out)
      replace BK203 := am (blk_drew BK203.out)
      replace HB := am (below_drew1 HB.out)
      refine start_ (n := 8) (S := fun w' => w'.cell? ⟨gb202, 0, none⟩ = some (.int .u64 a0_0) ∧ w'.cell? ⟨gb202, 1, none⟩ = some (.int .u64 a0_1) ∧ w'.cell? ⟨gb202, 2, none⟩ = some (.slice A0_2 l0_2.length c0_2)) (ds := []) #[false, false, false, false, false, false, false, false] (by kernel_rfl) rfl rfl ⟨ce BK202 0, ce BK202 1, ce BK202 2⟩ (fun hHeld => ?_); refine with_tabW index_Put.tab13 index_Put.bits13 (fun HT_ HW_ => ?_)
      generalize wc.drew = w82 at HO_203002 BK202 BK203 HB hHeld ⊢
      refine pu 0 ?_
      refine pu 2 ?_
      refine ta 1 hHeld ?_
      refine ta 3 hHeld ?_
      refine join_ (σ := Value × Nat) 1 #[true, true, true, true, true, true, true, false] (fun s_ => [(64, s_.1), (10, .pointer (some ⟨s_.2, 0, none⟩)), (65, .agg #[.int .u64 a0_0, .int .u64 a0_1, s_.1])]) (fun s_ w' => (w'.cell? ⟨gb202, 0, none⟩ = some (.int .u64 a0_0) ∧ w'.cell? ⟨gb202, 1, none⟩ = some (.int .u64 a0_1) ∧ w'.cell? ⟨gb202, 2, none⟩ = some (.slice A0_2 l0_2.length c0_2)) ∧ (Kd.R k60 60 w' w.heap.size (fun k_ => (w.heap.size ≤ k_)) s_.1 t220) ∧ (Kd.V k60 60 w' w.heap.size (fun k_ => (P0_2_ k_ ∨ w.heap.size ≤ k_) ∧ some k_ ≠ (s_.1 : Value).ownBlock ∧ k_ ≠ gb202 ∧ k_ ≠ gb203 ∧ k_ ≠ s_.2) (.slice A0_2 l0_2.length c0_2) l0_2) ∧ (w'.heap[gb202]? = some (.cells #[.int .u64 a0_0, .int .u64 a0_1, .slice A0_2 l0_2.length c0_2] 27 (0, 0))) ∧ (w'.heap[gb203]? = some (.cells #[.int .u64 0, .int .u64 0, .slice none 0 0] 27 (0, 0))) ∧ (w'.heap[s_.2]? = some (.cells #[.int .u64 0, .int .u64 0, .slice none 0 0] 27 (0, 0))) ∧ (w.heap.size ≤ s_.2) ∧ (w.heap.size ≤ s_.2) ∧ (gb202 ≠ s_.2) ∧ (s_.2 ≠ gb202) ∧ (gb203 ≠ s_.2) ∧ (s_.2 ≠ gb203) ∧ (Below w.heap.size w w')) ?_ ?_
      rotate_left
      ·intro hCont
       refine two_ (i := 4) (j := 6) (Ni := some 64) (Nj := some 10) #[true, true, true, true, true, false, false, false] #[true, true, true, true, false, false, true, false] rfl rfl rfl rfl (two_of HT_.out (by kernel_rfl)) (by decide) (by decide) (fun K hK => ?_) (fun K hK => ?_)
       ·skip
        refine gs Try.func28 #[.slice A0_2 l0_2.length c0_2] ?_
        with_reducible refine (index_Slot_28.calls _ _ l0_2 t220 _ ?side1 ?side2 A78.out).mono ?_
        (case side1 => repeat (first | exact (Kd.V_reads' HO_203002.out).2.2 | (with_reducible refine Kd.C_alloc ?_ _) | (with_reducible refine Kd.C_drewN ?_ _) | (with_reducible refine Kd.C_drew ?_)))
        (case side2 => exact (Kd.V_reads' HO_203002.out).2.1)
        rintro e w83 ⟨v221, rfl, ho0, hb⟩
        refine ⟨_, rfl, ?_⟩
        replace HO_203002 := am (Kd.V_elder' (pv HO_203002.out) (Kd.R_base ho0) hb)
        have HO222 := am (Kd.R_lower (Kd.R_newM (M := fun k_ => (w.heap.size ≤ k_)) ho0 (below_size (pb HB)) (fun k_ h_ => h_)) (below_size (pb HB)))
        replace BK202 := am (blk_below (pk BK202.out) hb)
        replace BK203 := am (blk_below (pk BK203.out) hb)
        replace HB := am (below_step (pb HB) hb)
        (try clear hb)
        (try clear hb2)
        (try clear hk)
        (try clear hi)
        (try clear ho0)
        obtain ⟨Ao84, co84, eo84⟩ := Kd.R_slice HO222.out
        (first | subst eo84 | (injection eo84 with f1_ f2_ f3_; have f4_ := f1_.symm; have f5_ := f3_.symm; clear f1_ f2_ f3_; subst f4_; subst f5_))
        refine hK.out _ _ ⟨ce BK202 0, ce BK202 1, ce BK202 2⟩ (fun hHeld => ?_)
        clear hK K
        refine nm ?_
        refine pu 5 ?_
        refine on1 6 (fun K hK => ?_)
        refine bx 10 #[.int .u64 0, .int .u64 0, .slice none 0 0] 27 ?_
        intro gb223 hg w85 hbox hb
        have n0_ := am (Kd.V_below (Kd.V_elderB (pv HO_203002.out) gb223 (Nat.le_of_eq hg.symm)) hb)
        have n1_ := am (Kd.R_below (pr HO222.out) hb)
        have n2_ := am (blk_below (pk BK202.out) hb)
        have n3_ := am (blk_below (pk BK203.out) hb)
        have n4_ := am (below_step (pb HB) hb)
        have n5_ := am (hbox)
        have n6_ := am ((pg hg HB : w.heap.size ≤ gb223))
        have n7_ := am ((pg hg HB : w.heap.size ≤ gb223))
        have n8_ := am ((pl hg (pk BK202.out) : gb202 ≠ gb223))
        have n9_ := am ((pl' hg (pk BK202.out) : gb223 ≠ gb202))
        have n10_ := am ((pl hg (pk BK203.out) : gb203 ≠ gb223))
        have n11_ := am ((pl' hg (pk BK203.out) : gb223 ≠ gb203))
        clear HO_203002 HO222 BK202 BK203 HB
        have HO_203002 := n0_
        have HO222 := n1_
        have BK202 := n2_
        have BK203 := n3_
        have HB := n4_
        have BK223 := n5_
        have GW223 := n6_
        have GE223 := n7_
        have NB202_223 := n8_
        have NB223_202 := n9_
        have NB203_223 := n10_
        have NB223_203 := n11_
        clear n0_ n1_ n2_ n3_ n4_ n5_ n6_ n7_ n8_ n9_ n10_ n11_ hb hbox hg
        refine hK.out _ _ ⟨ce BK202 0, ce BK202 1, ce BK202 2⟩ (fun hHeld => ?_)
        clear hK K
        refine nm ?_
        exact nj (hCont (.slice Ao84 t220.length co84, gb223) _ ⟨hHeld, (pr (Kd.R_mono HO222.out (fun _ hk => hk.1))), (pv (Kd.V_mono HO_203002.out (fun _ hk => ⟨hk.1.1.1, ⟨hk.1.2, ⟨hk.1.1.2.1, ⟨hk.1.1.2.2, hk.2⟩⟩⟩⟩))), (pk BK202.out), (pk BK203.out), (pk BK223.out), GW223.out, GE223.out, NB202_223.out, NB223_202.out, NB203_223.out, NB223_203.out, (pb HB)⟩)
       ·skip
        refine bx 10 #[.int .u64 0, .int .u64 0, .slice none 0 0] 27 ?_
        intro gb223 hg w83 hbox hb
        have n0_ := am (Kd.V_below (Kd.V_elderB (pv HO_203002.out) gb223 (Nat.le_of_eq hg.symm)) hb)
        have n1_ := am (blk_below (pk BK202.out) hb)
        have n2_ := am (blk_below (pk BK203.out) hb)
        have n3_ := am (below_step (pb HB) hb)
        have n4_ := am (hbox)
        have n5_ := am ((pg hg HB : w.heap.size ≤ gb223))
        have n6_ := am ((pg hg HB : w.heap.size ≤ gb223))
        have n7_ := am ((pl hg (pk BK202.out) : gb202 ≠ gb223))
        have n8_ := am ((pl' hg (pk BK202.out) : gb223 ≠ gb202))
        have n9_ := am ((pl hg (pk BK203.out) : gb203 ≠ gb223))
        have n10_ := am ((pl' hg (pk BK203.out) : gb223 ≠ gb203))
        clear HO_203002 BK202 BK203 HB
        have HO_203002 := n0_
        have BK202 := n1_
        have BK203 := n2_
        have HB := n3_
        have BK223 := n4_
        have GW223 := n5_
        have GE223 := n6_
        have NB202_223 := n7_
        have NB223_202 := n8_
        have NB203_223 := n9_
        have NB223_203 := n10_
        clear n0_ n1_ n2_ n3_ n4_ n5_ n6_ n7_ n8_ n9_ n10_ hb hbox hg
        refine hK.out _ _ ⟨ce BK202 0, ce BK202 1, ce BK202 2⟩ (fun hHeld => ?_)
        clear hK K
        refine nm ?_
        refine on1 4 (fun K hK => ?_)
        refine gs Try.func28 #[.slice A0_2 l0_2.length c0_2] ?_
        with_reducible refine (index_Slot_28.calls _ _ l0_2 t220 _ ?side1 ?side2 A78.out).mono ?_
        (case side1 => repeat (first | exact (Kd.V_reads' HO_203002.out).2.2 | (with_reducible refine Kd.C_alloc ?_ _) | (with_reducible refine Kd.C_drewN ?_ _) | (with_reducible refine Kd.C_drew ?_)))
        (case side2 => exact (Kd.V_reads' HO_203002.out).2.1)
        rintro e w84 ⟨v221, rfl, ho0, hb⟩
        refine ⟨_, rfl, ?_⟩
        replace HO_203002 := am (Kd.V_elder' (pv HO_203002.out) (Kd.R_base ho0) hb)
        have HO222 := am (Kd.R_lower (Kd.R_newM (M := fun k_ => (w.heap.size ≤ k_)) ho0 (below_size (pb HB)) (fun k_ h_ => h_)) (below_size (pb HB)))
        replace BK202 := am (blk_below (pk BK202.out) hb)
        replace BK203 := am (blk_below (pk BK203.out) hb)
        replace BK223 := am (blk_below (pk BK223.out) hb)
        replace HB := am (below_step (pb HB) hb)
        (try clear hb)
        (try clear hb2)
        (try clear hk)
        (try clear hi)
        (try clear ho0)
        obtain ⟨Ao85, co85, eo85⟩ := Kd.R_slice HO222.out
        (first | subst eo85 | (injection eo85 with f1_ f2_ f3_; have f4_ := f1_.symm; have f5_ := f3_.symm; clear f1_ f2_ f3_; subst f4_; subst f5_))
        refine hK.out _ _ ⟨ce BK202 0, ce BK202 1, ce BK202 2⟩ (fun hHeld => ?_)
        clear hK K
        refine nm ?_
        refine pu 5 ?_
        exact nj (hCont (.slice Ao85 t220.length co85, gb223) _ ⟨hHeld, (pr (Kd.R_mono HO222.out (fun _ hk => hk.1))), (pv (Kd.V_mono HO_203002.out (fun _ hk => ⟨hk.1.1.1, ⟨hk.2, ⟨hk.1.1.2.1, ⟨hk.1.1.2.2, hk.1.2⟩⟩⟩⟩))), (pk BK202.out), (pk BK203.out), (pk BK223.out), GW223.out, GE223.out, NB202_223.out, NB223_202.out, NB203_223.out, NB223_203.out, (pb HB)⟩)
      rintro ⟨v221, gb223⟩ w86 ⟨hS_, h0_, h1_, h2_, h3_, h4_, h5_, h6_, h7_, h8_, h9_, h10_, h11_⟩
      have HO222 : Aside0 (Kd.R k60 60 w86 w.heap.size (fun k_ => (w.heap.size ≤ k_)) v221 t220) := ⟨h0_⟩
      replace HO_203002 : Aside0 (Kd.V k60 60 w86 w.heap.size (fun k_ => (P0_2_ k_ ∨ w.heap.size ≤ k_) ∧ some k_ ≠ (v221 : Value).ownBlock ∧ k_ ≠ gb202 ∧ k_ ≠ gb203 ∧ k_ ≠ gb223) (.slice A0_2 l0_2.length c0_2) l0_2) := ⟨h1_⟩
      replace BK202 : Aside0 (w86.heap[gb202]? = some (.cells #[.int .u64 a0_0, .int .u64 a0_1, .slice A0_2 l0_2.length c0_2] 27 (0, 0))) := ⟨h2_⟩
      replace BK203 : Aside0 (w86.heap[gb203]? = some (.cells #[.int .u64 0, .int .u64 0, .slice none 0 0] 27 (0, 0))) := ⟨h3_⟩
      have BK223 : Aside0 (w86.heap[gb223]? = some (.cells #[.int .u64 0, .int .u64 0, .slice none 0 0] 27 (0, 0))) := ⟨h4_⟩
      have GW223 : Aside0 (w.heap.size ≤ gb223) := ⟨h5_⟩
      have GE223 : Aside0 (w.heap.size ≤ gb223) := ⟨h6_⟩
      have NB202_223 : Aside0 (gb202 ≠ gb223) := ⟨h7_⟩
      have NB223_202 : Aside0 (gb223 ≠ gb202) := ⟨h8_⟩
      have NB203_223 : Aside0 (gb203 ≠ gb223) := ⟨h9_⟩
      have NB223_203 : Aside0 (gb223 ≠ gb203) := ⟨h10_⟩
      replace HB : Aside0 (Below w.heap.size w w86) := ⟨h11_⟩
      clear h0_ h1_ h2_ h3_ h4_ h5_ h6_ h7_ h8_ h9_ h10_ h11_
      have hHeld : w86.cell? ⟨gb202, 0, none⟩ = some (.int .u64 a0_0) ∧ w86.cell? ⟨gb202, 1, none⟩ = some (.int .u64 a0_1) ∧ w86.cell? ⟨gb202, 2, none⟩ = some (.slice A0_2 l0_2.length c0_2) := hS_
      obtain ⟨Ao87, co87, eo87⟩ := Kd.R_slice HO222.out
      (first | subst eo87 | (injection eo87 with f1_ f2_ f3_; have f4_ := f1_.symm; have f5_ := f3_.symm; clear f1_ f2_ f3_; subst f4_; subst f5_))
      refine norm_ (a' := ?_) ?_ ?_
      rotate_left
      ·simp only [putAll, Act.put, List.setIfInBounds_toArray, List.set_cons_zero, List.set_cons_succ]
       rfl
      refine one_ (i := 7) (N := none) #[true, true, true, true, true, true, true, true] rfl rfl (one_of HT_.out (by kernel_rfl)) (by decide) (fun K hK => ?_)
      have hs88 : w86.cell? ⟨gb223, 0, none⟩ = some (.int .u64 0) := ce BK223 0
      have hfs88 := blk_frozen BK223.out 0
      have hns88_0 := NB202_223.out
      have hns88_1 := NB203_223.out
      have hms88_0 := NB223_202.out
      have hms88_1 := NB223_203.out
      have hs89 : w86.cell? ⟨gb223, 1, none⟩ = some (.int .u64 0) := ce BK223 1
      have hfs89 := blk_frozen BK223.out 1
      have hns89_0 := NB202_223.out
      have hns89_1 := NB203_223.out
      have hms89_0 := NB223_202.out
      have hms89_1 := NB223_203.out
      have hs90 : w86.cell? ⟨gb223, 2, none⟩ = some (.slice none 0 0) := ce BK223 2
      have hfs90 := blk_frozen BK223.out 2
      have hns90_0 := NB202_223.out
      have hns90_1 := NB203_223.out
      have hms90_0 := NB223_202.out
      have hms90_1 := NB223_203.out
      refine skip_ (w1 := ?_) (by rfl) rfl ?_ ?_
      rotate_left
      ·go_simp
       rfl
      refine hK.out _ _ ⟨((cell_far (p := ⟨gb223, _, none⟩) NB202_223.out _).trans (((cell_far (p := ⟨gb223, _, none⟩) NB202_223.out _).trans (((cell_far (p := ⟨gb223, _, none⟩) NB202_223.out _).trans (hHeld.1)))))), ((cell_far (p := ⟨gb223, _, none⟩) NB202_223.out _).trans (((cell_far (p := ⟨gb223, _, none⟩) NB202_223.out _).trans (((cell_far (p := ⟨gb223, _, none⟩) NB202_223.out _).trans (hHeld.2.1)))))), ((cell_far (p := ⟨gb223, _, none⟩) NB202_223.out _).trans (((cell_far (p := ⟨gb223, _, none⟩) NB202_223.out _).trans (((cell_far (p := ⟨gb223, _, none⟩) NB202_223.out _).trans (hHeld.2.2))))))⟩ (fun hHeld => ?_)
      clear hK K
      refine done_ (done_of HT_.out (by kernel_rfl)) ?_
      have n0_ : Aside0 (Kd.V k60 60 (((w86.setCell ⟨gb223, 0, none⟩ (.int .u64 a0_0)).setCell ⟨gb223, 1, none⟩ (.int .u64 a0_1)).setCell ⟨gb223, 2, none⟩ (.slice Ao87 t220.length co87)) w.heap.size (fun k_ => (P0_2_ k_ ∨ w.heap.size ≤ k_) ∧ some k_ ≠ (.slice Ao87 t220.length co87 : Value).ownBlock ∧ k_ ≠ gb202 ∧ k_ ≠ gb203 ∧ k_ ≠ gb223) (.slice A0_2 l0_2.length c0_2) l0_2) := ⟨by refine pv ?_; exact Kd.V_mono (Kd.V_far (p := ⟨gb223, 2, none⟩) (Kd.V_far (p := ⟨gb223, 1, none⟩) (Kd.V_far (p := ⟨gb223, 0, none⟩) (Kd.V_mono HO_203002.out (fun k_ hk => (⟨hk, hk.2.2.2.2⟩ : _ ∧ k_ ≠ gb223))) (fun _ hk => hk.2) (.int .u64 a0_0)) (fun _ hk => hk.2) (.int .u64 a0_1)) (fun _ hk => hk.2) (.slice Ao87 t220.length co87)) (fun _ hk => ⟨hk.1.1, ⟨hk.1.2.1, ⟨hk.1.2.2.1, ⟨hk.1.2.2.2.1, hk.1.2.2.2.2⟩⟩⟩⟩)⟩
      have n1_ : Aside0 (Kd.R k60 60 (((w86.setCell ⟨gb223, 0, none⟩ (.int .u64 a0_0)).setCell ⟨gb223, 1, none⟩ (.int .u64 a0_1)).setCell ⟨gb223, 2, none⟩ (.slice Ao87 t220.length co87)) w.heap.size (fun k_ => (w.heap.size ≤ k_)) (.slice Ao87 t220.length co87) t220) := ⟨by refine pr ?_; exact Kd.R_mono (Kd.R_far (p := ⟨gb223, 2, none⟩) (Kd.R_far (p := ⟨gb223, 1, none⟩) (Kd.R_far (p := ⟨gb223, 0, none⟩) (Kd.R_types HO222.out BK223.out (by decide)) (fun _ hk => hk.2) (.int .u64 a0_0)) (fun _ hk => hk.2) (.int .u64 a0_1)) (fun _ hk => hk.2) (.slice Ao87 t220.length co87)) (fun _ hk => hk.1)⟩
      have n2_ : Aside0 ((((w86.setCell ⟨gb223, 0, none⟩ (.int .u64 a0_0)).setCell ⟨gb223, 1, none⟩ (.int .u64 a0_1)).setCell ⟨gb223, 2, none⟩ (.slice Ao87 t220.length co87)).heap[gb202]? = some (.cells #[.int .u64 a0_0, .int .u64 a0_1, .slice A0_2 l0_2.length c0_2] 27 (0, 0))) := ⟨by refine pk ?_; refine blk_far ?_ NB202_223.out _; refine pk ?_; refine blk_far ?_ NB202_223.out _; refine pk ?_; refine blk_far ?_ NB202_223.out _; refine pk ?_; exact BK202.out⟩
      have n3_ : Aside0 ((((w86.setCell ⟨gb223, 0, none⟩ (.int .u64 a0_0)).setCell ⟨gb223, 1, none⟩ (.int .u64 a0_1)).setCell ⟨gb223, 2, none⟩ (.slice Ao87 t220.length co87)).heap[gb203]? = some (.cells #[.int .u64 0, .int .u64 0, .slice none 0 0] 27 (0, 0))) := ⟨by refine pk ?_; refine blk_far ?_ NB203_223.out _; refine pk ?_; refine blk_far ?_ NB203_223.out _; refine pk ?_; refine blk_far ?_ NB203_223.out _; refine pk ?_; exact BK203.out⟩
      have n4_ : Aside0 ((((w86.setCell ⟨gb223, 0, none⟩ (.int .u64 a0_0)).setCell ⟨gb223, 1, none⟩ (.int .u64 a0_1)).setCell ⟨gb223, 2, none⟩ (.slice Ao87 t220.length co87)).heap[gb223]? = some (.cells #[.int .u64 a0_0, .int .u64 a0_1, .slice Ao87 t220.length co87] 27 (0, 0))) := ⟨by refine pk ?_; refine blk_put (cs := #[.int .u64 a0_0, .int .u64 a0_1, .slice none 0 0]) ?_ 2 _ rfl; refine pk ?_; refine blk_put (cs := #[.int .u64 a0_0, .int .u64 0, .slice none 0 0]) ?_ 1 _ rfl; refine pk ?_; refine blk_put (cs := #[.int .u64 0, .int .u64 0, .slice none 0 0]) ?_ 0 _ rfl; refine pk ?_; exact BK223.out⟩
      have n5_ : Aside0 (Below w.heap.size w (((w86.setCell ⟨gb223, 0, none⟩ (.int .u64 a0_0)).setCell ⟨gb223, 1, none⟩ (.int .u64 a0_1)).setCell ⟨gb223, 2, none⟩ (.slice Ao87 t220.length co87))) := ⟨pb HB⟩
      (try clear HO_203002)
      (try clear HO222)
      (try clear BK202)
      (try clear BK203)
      (try clear BK223)
      (try clear HB)
      generalize (((w86.setCell ⟨gb223, 0, none⟩ (.int .u64 a0_0)).setCell ⟨gb223, 1, none⟩ (.int .u64 a0_1)).setCell ⟨gb223, 2, none⟩ (.slice Ao87 t220.length co87)) = w91 at n0_ n1_ n2_ n3_ n4_ n5_ ⊢
      have HO_203002 := n0_
      have HO222 := n1_
      have BK202 := n2_
      have BK203 := n3_
      have BK223 := n4_
      have HB := n5_
      clear n0_ n1_ n2_ n3_ n4_ n5_
      have hnb92 := NB223_202.out
      have hnc92 := NB202_223.out
      have hnb93 := NB223_203.out
      have hnc93 := NB203_223.out
      have hcz94_0 := ce BK223 0
      have hcz94_1 := ce BK223 1
      have hcz94_2 := ce BK223 2
      have hfz94_0 := fz BK223 0
      have hfz94_1 := fz BK223 1
      have hfz94_2 := fz BK223 2
      have p81 : 0 ≤ (t205 : Int) := of_decide_eq_true (by first | (with_reducible assumption) | assumption)
      have q81 : (t205 : Int) < ((t220.length : Int) : Int) := of_decide_eq_true (by first | (with_reducible assumption) | assumption)
      obtain ⟨go81, co81, eo81, gb81, gl81, cl81, HG81⟩ := Kd.R_form HO222.out (by omega)
      (first | cases eo81 | (injection eo81 with ea_ en_ ec_; (first | subst ea_ | (injection ea_ with ea_; subst ea_)); subst ec_; clear en_))
      have GB81 := am gb81
      have GG81 := am HG81
      clear gb81 gl81 HG81
      obtain ⟨ce81, hcl81, hM81, hcc81, hfr81⟩ := Kd.R_elem HO222.out z60 (t205 : Int) p81 q81
      obtain rfl := k60_openM hM81
      have hx81_0 : w91.cell? ⟨go81, (t205 : Int).toNat * 3, none⟩ = some (.bool ((rd_T60 t220 t205).f0)) := hcc81 0 _ rfl
      have hx81_1 : w91.cell? ⟨go81, (t205 : Int).toNat * 3 + 1, none⟩ = some (.string ((rd_T60 t220 t205).f1)) := hcc81 1 _ rfl
      have hx81_2 : w91.cell? ⟨go81, (t205 : Int).toNat * 3 + 2, none⟩ = some (.int .i64 ((rd_T60 t220 t205).f2)) := hcc81 2 _ rfl
      have hf81_0 : w91.frozen? ⟨go81, (t205 : Int).toNat * 3, none⟩ = false := hfr81 0
      have hf81_1 : w91.frozen? ⟨go81, (t205 : Int).toNat * 3 + 1, none⟩ = false := hfr81 1
      have hf81_2 : w91.frozen? ⟨go81, (t205 : Int).toNat * 3 + 2, none⟩ = false := hfr81 2
      clear hcl81 hcc81 hfr81 hM81
      replace p81 := eq_true p81
      replace q81 := eq_true q81
      have HX95 := am (show Kd.R k60 60 w91 w.heap.size (fun k_ => (w.heap.size ≤ k_)) (.slice (some ⟨go81, 0, none⟩) t220.length co87) t220 from (pr HO222.out))
      obtain ⟨ce95, hcl95, hM95, hcc95, hfr95⟩ := Kd.R_elem HX95.out z60 (t205 : Int) (of_decide_eq_true (by first | (with_reducible assumption) | assumption)) (by have h_ : (t205 : Int) < ((t220.length : Int) : Int) := of_decide_eq_true (by first | (with_reducible assumption) | assumption); first | exact h_ | (have e_ := (Kd.R_reads' HO222.out).1; omega) | simpa using h_)
      obtain rfl := k60_openM hM95
      have HP95 := Kd.R_seg HX95.out (t205 : Int) (of_decide_eq_true (by first | (with_reducible assumption) | assumption)) (by have h_ : (t205 : Int) < ((t220.length : Int) : Int) := of_decide_eq_true (by first | (with_reducible assumption) | assumption); first | exact h_ | (have e_ := (Kd.R_reads' HO222.out).1; omega) | simpa using h_) (seg := [.bool true, .string a1, .int .i64 a2]) (j := 0) hcl95 hcc95 (show 3 ≤ 3 from by decide) (x' := (⟨true, a1, a2⟩ : S60)) (k60_mkM _ _ _ (⟨true, a1, a2⟩ : S60) ) (fun _ hk => hk)
      have hx95_0 := hcc95 0 _ rfl
      (try simp only [show (k60).sz = 3 from rfl, Nat.mul_one, Nat.add_zero] at hx95_0)
      have hf95_0 := hfr95 0
      (try simp only [show (k60).sz = 3 from rfl, Nat.mul_one, Nat.add_zero] at hf95_0)
      have hx95_1 := hcc95 1 _ rfl
      (try simp only [show (k60).sz = 3 from rfl, Nat.mul_one, Nat.add_zero] at hx95_1)
      have hf95_1 := hfr95 1
      (try simp only [show (k60).sz = 3 from rfl, Nat.mul_one, Nat.add_zero] at hf95_1)
      have hx95_2 := hcc95 2 _ rfl
      (try simp only [show (k60).sz = 3 from rfl, Nat.mul_one, Nat.add_zero] at hx95_2)
      have hf95_2 := hfr95 2
      (try simp only [show (k60).sz = 3 from rfl, Nat.mul_one, Nat.add_zero] at hf95_2)
      clear hcl95 hcc95 hfr95 hM95
      try go_wp2_with (first | ((with_reducible refine gate_store (t := 60) (p := 72) rfl ?_); refine store_event (t := 60) (p := 72) (v := ?vo_w96) (w1 := (((w91.setCell ⟨go81, (t205 : Int).toNat * 3, none⟩ (.bool true)).setCell ⟨go81, (t205 : Int).toNat * 3 + 1, none⟩ (.string a1)).setCell ⟨go81, (t205 : Int).toNat * 3 + 2, none⟩ (.int .i64 a2))) ?hg ?ho ?hn ?hr ?_; (case ho => rfl); (case hg => rfl); (case hn => rfl); (case hr => first | (go_simp; done) | (go_simp; rfl)); intro w96 hw; have hg : w91.grownBy w96 (some go81) := (by rw [hw]; exact HP95.2); have hp_ : Kd.R k60 60 w96 w.heap.size (fun k_ => (w.heap.size ≤ k_)) (.slice (some ⟨go81, 0, none⟩) t220.length co87) y224 := (by rw [hw, Ny224.out]; exact HP95.1); clear HP95; have n0_ := am (Kd.V_afterv (v := (.slice (some ⟨go81, 0, none⟩) t220.length co87)) (v1 := (.slice (some ⟨go81, 0, none⟩) t220.length co87)) (ok := (fun k_ => (P0_2_ k_ ∨ w.heap.size ≤ k_) ∧ k_ ≠ gb202 ∧ k_ ≠ gb203 ∧ k_ ≠ gb223)) (pv (Kd.V_mono HO_203002.out (fun _ hk => ⟨⟨hk.1, ⟨hk.2.2.1, ⟨hk.2.2.2.1, hk.2.2.2.2⟩⟩⟩, hk.2.1⟩))) hg (.inl rfl)); have n1_ := am (blk_grown (g := gb202) (o := .cells #[.int .u64 a0_0, .int .u64 a0_1, .slice A0_2 l0_2.length c0_2] 27 (0, 0)) (pk BK202.out) hg (Kd.R_ne HO222.out BK202.out (by decide))); have n2_ := am (blk_grown (g := gb203) (o := .cells #[.int .u64 0, .int .u64 0, .slice none 0 0] 27 (0, 0)) (pk BK203.out) hg (Kd.R_ne HO222.out BK203.out (by decide))); have n3_ := am (hp_); have n4_ := am (blk_grown (g := gb223) (o := .cells #[.int .u64 a0_0, .int .u64 a0_1, .slice (some ⟨go81, 0, none⟩) t220.length co87] 27 (0, 0)) (pk BK223.out) hg (Kd.R_ne HO222.out BK223.out (by decide))); have n5_ := am ((by rw [hw]; exact below_set (below_set (below_set (HB.out) GB81.out) GB81.out) GB81.out : Below w.heap.size w w96)); clear HO_203002; clear BK202; clear BK203; clear HO222; clear BK223; clear HB; have HO_203002 := n0_; have BK202 := n1_; have BK203 := n2_; have HO222 := n3_; have BK223 := n4_; have HB := n5_; clear n0_ n1_ n2_ n3_ n4_ n5_; clear hg hw hp_; have hcz97_0 := ce BK223 0; have hcz97_1 := ce BK223 1; have hcz97_2 := ce BK223 2; have hfz97_0 := fz BK223 0; have hfz97_1 := fz BK223 1; have hfz97_2 := fz BK223 2; have hnb98 := NB203_202.out; have hnc98 := NB202_203.out; have hcz99_0 := ce BK203 0; have hcz99_1 := ce BK203 1; have hcz99_2 := ce BK203 2; have hfz99_0 := fz BK203 0; have hfz99_1 := fz BK203 1; have hfz99_2 := fz BK203 2))
      refine bodyPost_ret (results_ct rfl _ _ gb203 27 #[.int .u64 a0_0, .int .u64 a0_1, .slice (some ⟨go81, 0, none⟩) t220.length co87] (0, 0) _ rfl (by refine pk ?_; refine blk_put (cs := #[.int .u64 a0_0, .int .u64 a0_1, .slice none 0 0]) ?_ 2 _ rfl; refine pk ?_; refine blk_put (cs := #[.int .u64 a0_0, .int .u64 0, .slice none 0 0]) ?_ 1 _ rfl; refine pk ?_; refine blk_put (cs := #[.int .u64 0, .int .u64 0, .slice none 0 0]) ?_ 0 _ rfl; refine pk ?_; exact BK203.out) Try.underlying27 rfl (by kernel_rfl)) rfl ?_
      exact ⟨_, by first | rfl | (simp [errW_none, errW_some] <;> rfl) | (simp [*, errW_none, errW_some] <;> rfl), Kd.V_mono (Kd.R_V (pr (Kd.R_mono (Kd.R_far (p := ⟨gb203, 2, none⟩) (Kd.R_far (p := ⟨gb203, 1, none⟩) (Kd.R_far (p := ⟨gb203, 0, none⟩) (Kd.R_types HO222.out BK203.out (by decide)) (fun _ hk => hk.2) (.int .u64 a0_0)) (fun _ hk => hk.2) (.int .u64 a0_1)) (fun _ hk => hk.2) (.slice (some ⟨go81, 0, none⟩) t220.length co87)) (fun _ hk => hk.1)))) (fun k_ hk => by first | exact ⟨(.inr (hk.1)), hk.2⟩ | exact (.inr (hk))), pb HB⟩
     ·rw [if_neg c80] at H
      exact absurd H (by simp)
    ·rw [if_neg c79] at H
     exact absurd H (by simp)
end Go.Proofs.Ytojpmjkphgjmgaa.H
