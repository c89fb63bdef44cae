import Derived.Test.YtpbiobbddgipkaaHx0
import Derived.Test.YtpbiobbddgipkaaHx5
namespace Go.Proofs.Ytpbiobbddgipkaa.H
open Go.RowKit Go.Proofs.YtpbiobbddgipkaaW.PrintWords Go.Proofs.YtpbiobbddgipkaaW.PrintLast Go.Proofs.YtpbiobbddgipkaaW.PrintMore Go.Proofs.YtpbiobbddgipkaaW.Sq
attribute [local go_sem] max2_int min2_int max_two min_two max_three min_three max_four min_four
set_option linter.unusedVariables false
set_option linter.unusedSimpArgs false

def strata_compare.f (k : Nat) (a0_0 : ByteArray) (a0_1 : Int) (a0_2 : Int) (a0_3 : Int) (a0_4 : Int) (l0_5 : List (S87)) (a1_0 : ByteArray) (a1_1 : Int) (a1_2 : Int) (a1_3 : Int) (a1_4 : Int) (l1_5 : List (S87)) : Option (Int) := (cmp_Compare_uint64.f a0_1 a1_1).bind fun t198 => ((strings_Compare.f a0_0 a1_0).bind fun t199 => ((cmp_Or_int.f k (([t198, t199] : List Int))).bind fun t203 => (some t203)))
theorem strata_compare.mono : ∀ a0 a1 a2 a3 a4 a5 a6 a7 a8 a9 a10 a11 k, LeO (strata_compare.f k a0 a1 a2 a3 a4 a5 a6 a7 a8 a9 a10 a11) (strata_compare.f (k + 1) a0 a1 a2 a3 a4 a5 a6 a7 a8 a9 a10 a11) := by
 intro a0 a1 a2 a3 a4 a5 a6 a7 a8 a9 a10 a11 k
 unfold strata_compare.f
 repeat' first
   | (with_reducible exact cmp_Or_int.mono _ _)
   | (with_reducible exact LeO.refl _)
   | (with_reducible exact LeO.none _)
   | (with_reducible refine LeO.ite ?_ ?_)
   | (with_reducible refine LeO.bind ?_ (fun _ => ?_))
def strata_compare.T1 : Bool × List (List Nat × List Nat) := (true, [([], []), ([0], [0]), ([], []), ([2], [2]), ([1, 3], [1, 3]), ([], []), ([5], [5]), ([], []), ([7], [7]), ([6, 8, 4], [6, 8]), ([4, 9], [4, 9]), ([10, 9], [10]), ([11, 11, 0, 1, 2, 3, 4, 5, 6, 7, 8, 9, 10, 11], [11])])
def strata_compare.B1 : List Nat := [0, 1, 0, 4, 15, 0, 32, 0, 128, 511, 1023, 2047, 4095]
theorem strata_compare.tab1 : rtab .any (opsOf Try.f39 1) = strata_compare.T1 := by kernel_rfl
theorem strata_compare.bits1 : waitsOk strata_compare.T1.2 strata_compare.B1 = true := by kernel_rfl
set_option maxHeartbeats 8000000 in
set_option maxRecDepth 100000 in
theorem strata_compare.calls (k : Nat) (a0_0 : ByteArray) (a0_1 : Int) (a0_2 : Int) (a0_3 : Int) (a0_4 : Int) (A0_5 : Option Addr) (c0_5 : Nat) (l0_5 : List (S87)) (a1_0 : ByteArray) (a1_1 : Int) (a1_2 : Int) (a1_3 : Int) (a1_4 : Int) (A1_5 : Option Addr) (c1_5 : Nat) (l1_5 : List (S87)) (r : Int) (w : World) (hr0_5 : Kd.C k87 w A0_5 l0_5.length l0_5) (hc0_5 : l0_5.length ≤ c0_5) (hr1_5 : Kd.C k87 w A1_5 l1_5.length l1_5) (hc1_5 : l1_5.length ≤ c1_5) (h : strata_compare.f k a0_0 a0_1 a0_2 a0_3 a0_4 l0_5 a1_0 a1_1 a1_2 a1_3 a1_4 l1_5 = some r) :
  Calls Try.prog 39 #[.agg #[.string a0_0, .int .u64 a0_1, .int .u64 a0_2, .int .u64 a0_3, .int .i64 a0_4, .slice A0_5 l0_5.length c0_5], .agg #[.string a1_0, .int .u64 a1_1, .int .u64 a1_2, .int .u64 a1_3, .int .i64 a1_4, .slice A1_5 l1_5.length c1_5]] w fun e w' => e = .returned (.int .i64 r) ∧ Below w.heap.size w w' := by
 have hu42 := Try.underlying42
 have HR0_5 := am hr0_5
 have HC0_5 := am hc0_5
 clear hr0_5 hc0_5
 have HR1_5 := am hr1_5
 have HC1_5 := am hc1_5
 clear hr1_5 hc1_5
 have HB := am (Below.refl w.heap.size w)
 have H : ((cmp_Compare_uint64.f a0_1 a1_1).bind fun t198 => ((strings_Compare.f a0_0 a1_0).bind fun t199 => ((cmp_Or_int.f k (([t198, t199] : List Int))).bind fun t203 => (some t203)))) = some r := h
 clear h
 replace H := Option.bind_eq_some_iff.mp H
 obtain ⟨t198, A30, H⟩ := H
 try dsimp only at H
 have A3 := am A30
 clear A30
 replace H := Option.bind_eq_some_iff.mp H
 obtain ⟨t199, A40, H⟩ := H
 try dsimp only at H
 have A4 := am A40
 clear A40
 obtain ⟨y200, hy200⟩ : ∃ y_ : List Int, y_ = (([t198, t199] : List Int)) := ⟨_, rfl⟩
 replace H : ((cmp_Or_int.f k y200).bind fun t203 => (some t203)) = some r := by first | (rw [hy200]; with_reducible exact H) | (have H2_ := (Option.bind_some _ _).symm.trans H; rw [hy200]; with_reducible exact H2_) | (have H2_ := (Option.bind_some _ _).symm.trans H; with_reducible exact H2_) | with_reducible exact H | (rw [hy200]; exact H) | exact H
 have Ny200 := am hy200
 clear hy200
 replace H := Option.bind_eq_some_iff.mp H
 obtain ⟨t203, A50, H⟩ := H
 try dsimp only at H
 have A5 := am A50
 clear A50
 obtain rfl := Option.some.inj H
 go_enter Try.func39, Try.ntmps39
 try go_wp2_with (first | ((with_reducible refine gate_dst (N := 2) rfl ?_); refine be 2 #[.string a0_0, .int .u64 a0_1, .int .u64 a0_2, .int .u64 a0_3, .int .i64 a0_4, .slice A0_5 l0_5.length c0_5] 42 ?_; intro gb196 hg w6 hbox hb; have BK196 := am (hbox); have GW196 := am ((pg hg HB : w.heap.size ≤ gb196)); have GE196 := am ((pg hg HB : w.heap.size ≤ gb196)); replace HB := am (below_step (pb HB) hb); clear hb hbox hg) | ((with_reducible refine gate_dst (N := 3) rfl ?_); refine be 3 #[.string a1_0, .int .u64 a1_1, .int .u64 a1_2, .int .u64 a1_3, .int .i64 a1_4, .slice A1_5 l1_5.length c1_5] 42 ?_; intro gb197 hg w7 hbox hb; have BK197 := am (hbox); have GW197 := am ((pg hg HB : w.heap.size ≤ gb197)); have GE197 := am ((pg hg HB : w.heap.size ≤ gb197)); replace HB := am (below_step (pb HB) hb); obtain ⟨NB196_197, NB197_196, -, -⟩ := pm hg BK196; replace BK196 := am (blk_below (pk BK196.out) hb); clear hb hbox hg))
 replace BK196 := am (blk_drew BK196.out)
 replace BK197 := am (blk_drew BK197.out)
 replace HB := am (below_drew1 HB.out)
 refine start_ (n := 13) (S := fun w' => w'.cell? ⟨gb196, 0, none⟩ = some (.string a0_0) ∧ w'.cell? ⟨gb196, 1, none⟩ = some (.int .u64 a0_1) ∧ w'.cell? ⟨gb196, 2, none⟩ = some (.int .u64 a0_2) ∧ w'.cell? ⟨gb196, 3, none⟩ = some (.int .u64 a0_3) ∧ w'.cell? ⟨gb196, 4, none⟩ = some (.int .i64 a0_4) ∧ w'.cell? ⟨gb196, 5, none⟩ = some (.slice A0_5 l0_5.length c0_5) ∧ w'.cell? ⟨gb197, 0, none⟩ = some (.string a1_0) ∧ w'.cell? ⟨gb197, 1, none⟩ = some (.int .u64 a1_1) ∧ w'.cell? ⟨gb197, 2, none⟩ = some (.int .u64 a1_2) ∧ w'.cell? ⟨gb197, 3, none⟩ = some (.int .u64 a1_3) ∧ w'.cell? ⟨gb197, 4, none⟩ = some (.int .i64 a1_4) ∧ w'.cell? ⟨gb197, 5, none⟩ = some (.slice A1_5 l1_5.length c1_5)) (ds := []) #[false, false, false, false, false, false, false, false, false, false, false, false, false] (by kernel_rfl) rfl rfl ⟨ce BK196 0, ce BK196 1, ce BK196 2, ce BK196 3, ce BK196 4, ce BK196 5, ce BK197 0, ce BK197 1, ce BK197 2, ce BK197 3, ce BK197 4, ce BK197 5⟩ (fun hHeld => ?_); refine with_tabW strata_compare.tab1 strata_compare.bits1 (fun HT_ HW_ => ?_)
 generalize w7.drew = w8 at BK196 BK197 HB hHeld ⊢
 refine pu 0 ?_
 refine pu 2 ?_
 refine pu 5 ?_
 refine pu 7 ?_
 refine ta 1 hHeld ?_
 refine ta 3 hHeld ?_
 refine ta 6 hHeld ?_
 refine ta 8 hHeld ?_
 refine on1 4 (fun K hK => ?_)
 refine gs Try.func56 #[.int .u64 a0_1, .int .u64 a1_1] ?_
 with_reducible refine (cmp_Compare_uint64.calls a0_1 a1_1 t198 _ A3.out).mono ?_
 rintro e w' ⟨rfl, ⟨nd, rfl⟩⟩
 refine ⟨_, rfl, ?_⟩
 refine hK.out _ _ ⟨ce BK196 0, ce BK196 1, ce BK196 2, ce BK196 3, ce BK196 4, ce BK196 5, ce BK197 0, ce BK197 1, ce BK197 2, ce BK197 3, ce BK197 4, ce BK197 5⟩ (fun hHeld => ?_)
 clear hK K
 refine nm ?_
 refine on1 9 (fun K hK => ?_)
 refine gs Try.func57 #[.string a0_0, .string a1_0] ?_
 with_reducible refine (strings_Compare.calls a0_0 a1_0 t199 _ A4.out).mono ?_
 rintro e w' ⟨rfl, ⟨nd, rfl⟩⟩
 refine ⟨_, rfl, ?_⟩
 refine hK.out _ _ ⟨ce BK196 0, ce BK196 1, ce BK196 2, ce BK196 3, ce BK196 4, ce BK196 5, ce BK197 0, ce BK197 1, ce BK197 2, ce BK197 3, ce BK197 4, ce BK197 5⟩ (fun hHeld => ?_)
 clear hK K
 refine nm ?_
 refine on1 10 (fun K hK => ?_)
 refine Kd.R_lit_step (Kd.int .i64) _ 3 ?hg (N := 15) ?hd (xs := ([t198, t199] : List Int)) (inner := [.int .i64 t198, .int .i64 t199]) (ok := fun _ => True) (okp := fun _ => True) ?hr ?hp (fun _ hk => hk) trivial (Below.refl _ _) (Nat.le_refl _) (by simp) ?_; (case hd => rfl); (case hg => rfl); (case hr => first | (go_simp; done) | (go_simp; rfl)); (case hp => exact (Reps.one (show Kd.M (Kd.int .i64) _ _ _ t198 [.int .i64 t198] from rfl) (Reps.one (show Kd.M (Kd.int .i64) _ _ _ t199 [.int .i64 t199] from rfl) (Reps.none _ _))))
 intro v201 w9 ho10 hb hg_ hnew_
 clear hg_ hnew_
 (first | rw [← Ny200.out] at ho10 | (simp only [Int.reduceToNat] at ho10; rw [← Ny200.out] at ho10))
 have n0_ := am (Kd.R_lower ho10 (below_size (pb HB)))
 have n1_ := am (blk_below (pk BK196.out) hb)
 have n2_ := am (blk_below (pk BK197.out) hb)
 have n3_ := am (below_step (pb HB) hb)
 clear BK196 BK197 HB
 have HO202 := n0_
 have BK196 := n1_
 have BK197 := n2_
 have HB := n3_
 clear n0_ n1_ n2_ n3_ hb ho10
 obtain ⟨Ao11, co11, eo11⟩ := Kd.R_slice HO202.out
 (first | subst eo11 | (injection eo11 with f1_ f2_ f3_; have f4_ := f1_.symm; have f5_ := f3_.symm; clear f1_ f2_ f3_; subst f4_; subst f5_))
 refine hK.out _ _ ⟨ce BK196 0, ce BK196 1, ce BK196 2, ce BK196 3, ce BK196 4, ce BK196 5, ce BK197 0, ce BK197 1, ce BK197 2, ce BK197 3, ce BK197 4, ce BK197 5⟩ (fun hHeld => ?_)
 clear hK K
 refine nm ?_
 refine on1 11 (fun K hK => ?_)
 refine gs Try.func55 #[.slice Ao11 y200.length co11] ?_
 with_reducible refine (cmp_Or_int.calls k _ _ y200 t203 _ ?side1 ?side2 A5.out).mono ?_
 (case side1 => repeat (first | exact (Kd.R_reads' HO202.out).2.2 | (with_reducible refine Kd.C_alloc ?_ _) | (with_reducible refine Kd.C_drewN ?_ _) | (with_reducible refine Kd.C_drew ?_)))
 (case side2 => exact (Kd.R_reads' HO202.out).2.1)
 rintro e w' ⟨rfl, ⟨nd, rfl⟩⟩
 refine ⟨_, rfl, ?_⟩
 refine hK.out _ _ ⟨ce BK196 0, ce BK196 1, ce BK196 2, ce BK196 3, ce BK196 4, ce BK196 5, ce BK197 0, ce BK197 1, ce BK197 2, ce BK197 3, ce BK197 4, ce BK197 5⟩ (fun hHeld => ?_)
 clear hK K
 refine nm ?_
 refine pu 12 ?_
 refine done_ (done_of HT_.out (by kernel_rfl)) ?_
 try go_wp2
 go_ret
 exact ⟨by first | rfl | (simp [errW_none, errW_some] <;> rfl) | (simp [*, errW_none, errW_some] <;> rfl), pb HB⟩

end Go.Proofs.Ytpbiobbddgipkaa.H
