import Derived.Test.YtpbiobbddgipkaaHx0
import Derived.Test.YtpbiobbddgipkaaHx4
import Derived.Test.YtpbiobbddgipkaaHx8
import Derived.Test.YtpbiobbddgipkaaHx14
import Derived.Test.YtpbiobbddgipkaaHx18
import Derived.Test.YtpbiobbddgipkaaHx19
namespace Go.Proofs.Ytpbiobbddgipkaa.H
open Go.RowKit Go.Proofs.YtpbiobbddgipkaaW.PrintWords Go.Proofs.YtpbiobbddgipkaaW.PrintLast Go.Proofs.YtpbiobbddgipkaaW.PrintMore Go.Proofs.YtpbiobbddgipkaaW.Sq
attribute [local go_sem] max2_int min2_int max_two min_two max_three min_three max_four min_four
set_option linter.unusedVariables false
set_option linter.unusedSimpArgs false

mutual
def samphirelaw21_StrataApart.j0 : Nat → Int → List (S35) → Int → Bool → Int → Int → Int → Int → Int → Int → List (S42) → Option (Bool)
 | 0, _, _, _, _, _, _, _, _, _, _, _ => none
 | k + 1, x2, x3, x10, x40, x381000, x381001, x390000, x390001, x390002, x390003, x390004 => if x40 = true then (if x10 = 0 then ((samphirelaw21_awake.f k).bind fun t390 => (some t390)) else (some false)) else (samphirelaw21_StrataApart.l0 k x2 x3 x3 (x3.length : Int) 0 x381000 x381001 x390000 x390001 x390002 x390003 x390004)
def samphirelaw21_StrataApart.l0 : Nat → Int → List (S35) → List (S35) → Int → Int → Int → Int → Int → Int → Int → Int → List (S42) → Option (Bool)
 | 0, _, _, _, _, _, _, _, _, _, _, _, _ => none
 | k + 1, x2, x3, x46, x47, x48, x381000, x381001, x390000, x390001, x390002, x390003, x390004 => if x48 < x47 then (if 0 ≤ x48 then (if x48 < (x46.length : Int) then (if (((rd_T35 x46 x48).f0).size : Int) > 64 then (samphirelaw21_StrataApart.j2 k x2 x3 x46 x47 x48 true x381000 x381001 x390000 x390001 x390002 x390003 x390004 ((rd_T35 x46 x48).f0) ((rd_T35 x46 x48).f1) ((rd_T35 x46 x48).f2) ((rd_T35 x46 x48).f3)) else (if (((rd_T35 x46 x48).f1).size : Int) > 64 then (samphirelaw21_StrataApart.j2 k x2 x3 x46 x47 x48 true x381000 x381001 x390000 x390001 x390002 x390003 x390004 ((rd_T35 x46 x48).f0) ((rd_T35 x46 x48).f1) ((rd_T35 x46 x48).f2) ((rd_T35 x46 x48).f3)) else (samphirelaw21_StrataApart.j2 k x2 x3 x46 x47 x48 (((rd_T35 x46 x48).f2) == 0) x381000 x381001 x390000 x390001 x390002 x390003 x390004 ((rd_T35 x46 x48).f0) ((rd_T35 x46 x48).f1) ((rd_T35 x46 x48).f2) ((rd_T35 x46 x48).f3)))) else (none)) else (none)) else (samphirelaw21_StrataApart.l1 k x2 x3 x390004 (x390004.length : Int) 0 x381000 x381001 x390000 x390001 x390002 x390003 x390004)
def samphirelaw21_StrataApart.j2 : Nat → Int → List (S35) → List (S35) → Int → Int → Bool → Int → Int → Int → Int → Int → Int → List (S42) → ByteArray → ByteArray → Int → Int → Option (Bool)
 | 0, _, _, _, _, _, _, _, _, _, _, _, _, _, _, _, _, _ => none
 | k + 1, x2, x3, x46, x47, x48, x66, x381000, x381001, x390000, x390001, x390002, x390003, x390004, x393000, x393001, x393002, x393003 => if x66 = true then ((samphirelaw21_awake.f k).bind fun t393 => (some t393)) else ((strata_Add.f k x390000 x390001 x390002 x390003 x390004 x393000 x393001 x393002).bind fun bt394 => (samphirelaw21_StrataApart.l0 k x2 x3 x46 x47 (wrap64 (x48 + 1)) x381000 x381001 bt394.1 bt394.2.1 bt394.2.2.1 bt394.2.2.2.1 bt394.2.2.2.2.1))
def samphirelaw21_StrataApart.l1 : Nat → Int → List (S35) → List (S42) → Int → Int → Int → Int → Int → Int → Int → Int → List (S42) → Option (Bool)
 | 0, _, _, _, _, _, _, _, _, _, _, _, _ => none
 | k + 1, x2, x3, x81, x82, x83, x381000, x381001, x390000, x390001, x390002, x390003, x390004 => if x83 < x82 then (if 0 ≤ x83 then (if x83 < (x81.length : Int) then ((bottom_New.f x381000 x381001 (wrap64 (1 + (wrap64 (Int.tmod x2 8))))).bind fun bt405 => (samphirelaw21_StrataApart.l2 k x2 x3 x81 x82 x83 x3 (x3.length : Int) 0 x381000 x381001 x390000 x390001 x390002 x390003 x390004 ((rd_T42 x81 x83).f0) ((rd_T42 x81 x83).f1) ((rd_T42 x81 x83).f2.f0.f0) ((rd_T42 x81 x83).f2.f0.f1) ((rd_T42 x81 x83).f2.f1) ((rd_T42 x81 x83).f2.f2) bt405.1 bt405.2.1 bt405.2.2.1 bt405.2.2.2.1)) else (none)) else (none)) else ((samphirelaw21_awake.f k).bind fun t402 => (some t402))
def samphirelaw21_StrataApart.l2 : Nat → Int → List (S35) → List (S42) → Int → Int → List (S35) → Int → Int → Int → Int → Int → Int → Int → Int → List (S42) → ByteArray → Int → Int → Int → Int → List (S87) → Int → Int → Int → List (S87) → Option (Bool)
 | 0, _, _, _, _, _, _, _, _, _, _, _, _, _, _, _, _, _, _, _, _, _, _, _, _, _ => none
 | k + 1, x2, x3, x81, x82, x83, x96, x97, x98, x381000, x381001, x390000, x390001, x390002, x390003, x390004, x405000, x405001, x405002, x405003, x405004, x405005, x413000, x413001, x413002, x413003 => if x98 < x97 then (if 0 ≤ x98 then (if x98 < (x96.length : Int) then (if ((rd_T35 x96 x98).f0).toList = x405000.toList then ((bottom_Add.f k x413000 x413001 x413002 x413003 ((rd_T35 x96 x98).f1) ((rd_T35 x96 x98).f2)).bind fun bt415 => (samphirelaw21_StrataApart.l2 k x2 x3 x81 x82 x83 x96 x97 (wrap64 (x98 + 1)) x381000 x381001 x390000 x390001 x390002 x390003 x390004 x405000 x405001 x405002 x405003 x405004 x405005 bt415.1 bt415.2.1 bt415.2.2.1 bt415.2.2.2.1)) else (samphirelaw21_StrataApart.l2 k x2 x3 x81 x82 x83 x96 x97 (wrap64 (x98 + 1)) x381000 x381001 x390000 x390001 x390002 x390003 x390004 x405000 x405001 x405002 x405003 x405004 x405005 x413000 x413001 x413002 x413003)) else (none)) else (none)) else ((strata_Get.f k x390000 x390001 x390002 x390003 x390004 x405000).bind fun bt422 => (if bt422.2.2.2.2 = 0 then ((samphirelaw14_Refs.f k x413003).bind fun t430 => ((samphirelaw14_Refs.f k x405005).bind fun t433 => ((samphireref14_Same.f k t430 t433).bind fun t436 => (if t436 = true then ((samphirelaw14_Refs.f k bt422.2.2.2.1).bind fun t437 => ((samphirelaw14_Refs.f k x413003).bind fun t440 => ((samphireref14_Same.f k t437 t440).bind fun t443 => (if t443 = true then (samphirelaw21_StrataApart.l1 k x2 x3 x81 x82 (wrap64 (x83 + 1)) x381000 x381001 x390000 x390001 x390002 x390003 x390004) else (some false))))) else (some false))))) else (some false)))
end
def samphirelaw21_StrataApart.f (k : Nat) (a0_0 : Int) (a0_1 : Int) (a1 : Int) (a2 : Int) (l3 : List (S35)) : Option (Bool) := (strata_New.f a0_0 a0_1 (wrap64 (1 + (wrap64 (Int.tmod a1 8)))) (wrap64 (1 + (wrap64 (Int.tmod a2 8))))).bind fun bt381 => (if bt381.2.2.2.2.2 = 0 then (samphirelaw21_StrataApart.j0 k a2 l3 bt381.2.2.2.2.2 (decide ((l3.length : Int) > 60)) a0_0 a0_1 bt381.1 bt381.2.1 bt381.2.2.1 bt381.2.2.2.1 bt381.2.2.2.2.1) else (samphirelaw21_StrataApart.j0 k a2 l3 bt381.2.2.2.2.2 true a0_0 a0_1 bt381.1 bt381.2.1 bt381.2.2.1 bt381.2.2.2.1 bt381.2.2.2.2.1))
theorem samphirelaw21_StrataApart.mono_l : ∀ k, (∀ y0 y1 y2 y3 y4 y5 y6 y7 y8 y9 y10, LeO (samphirelaw21_StrataApart.j0 k y0 y1 y2 y3 y4 y5 y6 y7 y8 y9 y10) (samphirelaw21_StrataApart.j0 (k + 1) y0 y1 y2 y3 y4 y5 y6 y7 y8 y9 y10)) ∧ (∀ y0 y1 y2 y3 y4 y5 y6 y7 y8 y9 y10 y11, LeO (samphirelaw21_StrataApart.l0 k y0 y1 y2 y3 y4 y5 y6 y7 y8 y9 y10 y11) (samphirelaw21_StrataApart.l0 (k + 1) y0 y1 y2 y3 y4 y5 y6 y7 y8 y9 y10 y11)) ∧ (∀ y0 y1 y2 y3 y4 y5 y6 y7 y8 y9 y10 y11 y12 y13 y14 y15 y16, LeO (samphirelaw21_StrataApart.j2 k y0 y1 y2 y3 y4 y5 y6 y7 y8 y9 y10 y11 y12 y13 y14 y15 y16) (samphirelaw21_StrataApart.j2 (k + 1) y0 y1 y2 y3 y4 y5 y6 y7 y8 y9 y10 y11 y12 y13 y14 y15 y16)) ∧ (∀ y0 y1 y2 y3 y4 y5 y6 y7 y8 y9 y10 y11, LeO (samphirelaw21_StrataApart.l1 k y0 y1 y2 y3 y4 y5 y6 y7 y8 y9 y10 y11) (samphirelaw21_StrataApart.l1 (k + 1) y0 y1 y2 y3 y4 y5 y6 y7 y8 y9 y10 y11)) ∧ (∀ y0 y1 y2 y3 y4 y5 y6 y7 y8 y9 y10 y11 y12 y13 y14 y15 y16 y17 y18 y19 y20 y21 y22 y23 y24, LeO (samphirelaw21_StrataApart.l2 k y0 y1 y2 y3 y4 y5 y6 y7 y8 y9 y10 y11 y12 y13 y14 y15 y16 y17 y18 y19 y20 y21 y22 y23 y24) (samphirelaw21_StrataApart.l2 (k + 1) y0 y1 y2 y3 y4 y5 y6 y7 y8 y9 y10 y11 y12 y13 y14 y15 y16 y17 y18 y19 y20 y21 y22 y23 y24))
 | 0 => ⟨fun _ _ _ _ _ _ _ _ _ _ _ r h => by simp [samphirelaw21_StrataApart.j0] at h, fun _ _ _ _ _ _ _ _ _ _ _ _ r h => by simp [samphirelaw21_StrataApart.l0] at h, fun _ _ _ _ _ _ _ _ _ _ _ _ _ _ _ _ _ r h => by simp [samphirelaw21_StrataApart.j2] at h, fun _ _ _ _ _ _ _ _ _ _ _ _ r h => by simp [samphirelaw21_StrataApart.l1] at h, fun _ _ _ _ _ _ _ _ _ _ _ _ _ _ _ _ _ _ _ _ _ _ _ _ _ r h => by simp [samphirelaw21_StrataApart.l2] at h⟩
 | k + 1 => by
  obtain ⟨ih0, ih1, ih2, ih3, ih4⟩ := samphirelaw21_StrataApart.mono_l k
  refine ⟨?_, ?_, ?_, ?_, ?_⟩
  ·intro y0 y1 y2 y3 y4 y5 y6 y7 y8 y9 y10
   unfold samphirelaw21_StrataApart.j0
   repeat' first
   | (with_reducible exact ih0 _ _ _ _ _ _ _ _ _ _ _)
   | (with_reducible exact ih1 _ _ _ _ _ _ _ _ _ _ _ _)
   | (with_reducible exact ih2 _ _ _ _ _ _ _ _ _ _ _ _ _ _ _ _ _)
   | (with_reducible exact ih3 _ _ _ _ _ _ _ _ _ _ _ _)
   | (with_reducible exact ih4 _ _ _ _ _ _ _ _ _ _ _ _ _ _ _ _ _ _ _ _ _ _ _ _ _)
   | (with_reducible exact bottom_Add.mono _ _ _ _ _ _ _)
   | (with_reducible exact samphirelaw14_Refs.mono _ _)
   | (with_reducible exact samphirelaw21_awake.mono _)
   | (with_reducible exact samphireref14_Same.mono _ _ _)
   | (with_reducible exact strata_Add.mono _ _ _ _ _ _ _ _ _)
   | (with_reducible exact strata_Get.mono _ _ _ _ _ _ _)
   | (with_reducible exact LeO.refl _)
   | (with_reducible exact LeO.none _)
   | (with_reducible refine LeO.ite ?_ ?_)
   | (with_reducible refine LeO.bind ?_ (fun _ => ?_))
  ·intro y0 y1 y2 y3 y4 y5 y6 y7 y8 y9 y10 y11
   unfold samphirelaw21_StrataApart.l0
   repeat' first
   | (with_reducible exact ih0 _ _ _ _ _ _ _ _ _ _ _)
   | (with_reducible exact ih1 _ _ _ _ _ _ _ _ _ _ _ _)
   | (with_reducible exact ih2 _ _ _ _ _ _ _ _ _ _ _ _ _ _ _ _ _)
   | (with_reducible exact ih3 _ _ _ _ _ _ _ _ _ _ _ _)
   | (with_reducible exact ih4 _ _ _ _ _ _ _ _ _ _ _ _ _ _ _ _ _ _ _ _ _ _ _ _ _)
   | (with_reducible exact bottom_Add.mono _ _ _ _ _ _ _)
   | (with_reducible exact samphirelaw14_Refs.mono _ _)
   | (with_reducible exact samphirelaw21_awake.mono _)
   | (with_reducible exact samphireref14_Same.mono _ _ _)
   | (with_reducible exact strata_Add.mono _ _ _ _ _ _ _ _ _)
   | (with_reducible exact strata_Get.mono _ _ _ _ _ _ _)
   | (with_reducible exact LeO.refl _)
   | (with_reducible exact LeO.none _)
   | (with_reducible refine LeO.ite ?_ ?_)
   | (with_reducible refine LeO.bind ?_ (fun _ => ?_))
  ·intro y0 y1 y2 y3 y4 y5 y6 y7 y8 y9 y10 y11 y12 y13 y14 y15 y16
   unfold samphirelaw21_StrataApart.j2
   repeat' first
   | (with_reducible exact ih0 _ _ _ _ _ _ _ _ _ _ _)
   | (with_reducible exact ih1 _ _ _ _ _ _ _ _ _ _ _ _)
   | (with_reducible exact ih2 _ _ _ _ _ _ _ _ _ _ _ _ _ _ _ _ _)
   | (with_reducible exact ih3 _ _ _ _ _ _ _ _ _ _ _ _)
   | (with_reducible exact ih4 _ _ _ _ _ _ _ _ _ _ _ _ _ _ _ _ _ _ _ _ _ _ _ _ _)
   | (with_reducible exact bottom_Add.mono _ _ _ _ _ _ _)
   | (with_reducible exact samphirelaw14_Refs.mono _ _)
   | (with_reducible exact samphirelaw21_awake.mono _)
   | (with_reducible exact samphireref14_Same.mono _ _ _)
   | (with_reducible exact strata_Add.mono _ _ _ _ _ _ _ _ _)
   | (with_reducible exact strata_Get.mono _ _ _ _ _ _ _)
   | (with_reducible exact LeO.refl _)
   | (with_reducible exact LeO.none _)
   | (with_reducible refine LeO.ite ?_ ?_)
   | (with_reducible refine LeO.bind ?_ (fun _ => ?_))
  ·intro y0 y1 y2 y3 y4 y5 y6 y7 y8 y9 y10 y11
   unfold samphirelaw21_StrataApart.l1
   repeat' first
   | (with_reducible exact ih0 _ _ _ _ _ _ _ _ _ _ _)
   | (with_reducible exact ih1 _ _ _ _ _ _ _ _ _ _ _ _)
   | (with_reducible exact ih2 _ _ _ _ _ _ _ _ _ _ _ _ _ _ _ _ _)
   | (with_reducible exact ih3 _ _ _ _ _ _ _ _ _ _ _ _)
   | (with_reducible exact ih4 _ _ _ _ _ _ _ _ _ _ _ _ _ _ _ _ _ _ _ _ _ _ _ _ _)
   | (with_reducible exact bottom_Add.mono _ _ _ _ _ _ _)
   | (with_reducible exact samphirelaw14_Refs.mono _ _)
   | (with_reducible exact samphirelaw21_awake.mono _)
   | (with_reducible exact samphireref14_Same.mono _ _ _)
   | (with_reducible exact strata_Add.mono _ _ _ _ _ _ _ _ _)
   | (with_reducible exact strata_Get.mono _ _ _ _ _ _ _)
   | (with_reducible exact LeO.refl _)
   | (with_reducible exact LeO.none _)
   | (with_reducible refine LeO.ite ?_ ?_)
   | (with_reducible refine LeO.bind ?_ (fun _ => ?_))
  ·intro y0 y1 y2 y3 y4 y5 y6 y7 y8 y9 y10 y11 y12 y13 y14 y15 y16 y17 y18 y19 y20 y21 y22 y23 y24
   unfold samphirelaw21_StrataApart.l2
   repeat' first
   | (with_reducible exact ih0 _ _ _ _ _ _ _ _ _ _ _)
   | (with_reducible exact ih1 _ _ _ _ _ _ _ _ _ _ _ _)
   | (with_reducible exact ih2 _ _ _ _ _ _ _ _ _ _ _ _ _ _ _ _ _)
   | (with_reducible exact ih3 _ _ _ _ _ _ _ _ _ _ _ _)
   | (with_reducible exact ih4 _ _ _ _ _ _ _ _ _ _ _ _ _ _ _ _ _ _ _ _ _ _ _ _ _)
   | (with_reducible exact bottom_Add.mono _ _ _ _ _ _ _)
   | (with_reducible exact samphirelaw14_Refs.mono _ _)
   | (with_reducible exact samphirelaw21_awake.mono _)
   | (with_reducible exact samphireref14_Same.mono _ _ _)
   | (with_reducible exact strata_Add.mono _ _ _ _ _ _ _ _ _)
   | (with_reducible exact strata_Get.mono _ _ _ _ _ _ _)
   | (with_reducible exact LeO.refl _)
   | (with_reducible exact LeO.none _)
   | (with_reducible refine LeO.ite ?_ ?_)
   | (with_reducible refine LeO.bind ?_ (fun _ => ?_))
theorem samphirelaw21_StrataApart.mono : ∀ a0 a1 a2 a3 a4 k, LeO (samphirelaw21_StrataApart.f k a0 a1 a2 a3 a4) (samphirelaw21_StrataApart.f (k + 1) a0 a1 a2 a3 a4) := by
 intro a0 a1 a2 a3 a4 k
 obtain ⟨ih0, ih1, ih2, ih3, ih4⟩ := samphirelaw21_StrataApart.mono_l k
 unfold samphirelaw21_StrataApart.f
 repeat' first
   | (with_reducible exact ih0 _ _ _ _ _ _ _ _ _ _ _)
   | (with_reducible exact ih1 _ _ _ _ _ _ _ _ _ _ _ _)
   | (with_reducible exact ih2 _ _ _ _ _ _ _ _ _ _ _ _ _ _ _ _ _)
   | (with_reducible exact ih3 _ _ _ _ _ _ _ _ _ _ _ _)
   | (with_reducible exact ih4 _ _ _ _ _ _ _ _ _ _ _ _ _ _ _ _ _ _ _ _ _ _ _ _ _)
   | (with_reducible exact bottom_Add.mono _ _ _ _ _ _ _)
   | (with_reducible exact samphirelaw14_Refs.mono _ _)
   | (with_reducible exact samphirelaw21_awake.mono _)
   | (with_reducible exact samphireref14_Same.mono _ _ _)
   | (with_reducible exact strata_Add.mono _ _ _ _ _ _ _ _ _)
   | (with_reducible exact strata_Get.mono _ _ _ _ _ _ _)
   | (with_reducible exact LeO.refl _)
   | (with_reducible exact LeO.none _)
   | (with_reducible refine LeO.ite ?_ ?_)
   | (with_reducible refine LeO.bind ?_ (fun _ => ?_))
def samphirelaw21_StrataApart.T22 : Bool × List (List Nat × List Nat) := (true, [([], []), ([0], [0]), ([1], [1]), ([2], [2]), ([3, 2], [2, 3]), ([4, 2, 2], [2, 4]), ([2], [2]), ([6, 2], [2, 6]), ([7, 2], [2, 7]), ([8, 5, 2], [2, 8]), ([5, 9, 9, 2], [2, 5, 9]), ([10, 2], [2, 10]), ([2, 11], [2, 11]), ([12, 10], [12]), ([13], [13]), ([14, 13], [13, 14]), ([15, 13, 13], [13, 15]), ([13], [13]), ([17, 13], [13, 17]), ([18, 16, 13], [13, 18]), ([16, 19, 19, 13], [13, 16, 19]), ([20, 13], [13, 20]), ([13, 21], [13, 21])])
def samphirelaw21_StrataApart.B22 : List Nat := [0, 1, 3, 7, 15, 31, 7, 71, 199, 511, 1023, 2047, 4095, 8191, 16383, 32767, 65535, 16383, 147455, 524287, 1048575, 2097151, 4194303]
theorem samphirelaw21_StrataApart.tab22 : rtab .any (opsOf Try.f4 22) = samphirelaw21_StrataApart.T22 := by kernel_rfl
theorem samphirelaw21_StrataApart.bits22 : waitsOk samphirelaw21_StrataApart.T22.2 samphirelaw21_StrataApart.B22 = true := by kernel_rfl
set_option maxHeartbeats 8000000 in
set_option maxRecDepth 100000 in
theorem samphirelaw21_StrataApart.calls (k : Nat) (a0_0 : Int) (a0_1 : Int) (a1 : Int) (a2 : Int) (A3 : Option Addr) (c3 : Nat) (l3 : List (S35)) (r : Bool) (hrT : Aside0 (r = true)) (w : World) (hr3 : Kd.C k35 w A3 l3.length l3) (hc3 : l3.length ≤ c3) (h : samphirelaw21_StrataApart.f k a0_0 a0_1 a1 a2 l3 = some r) :
  Calls Try.prog 4 #[.agg #[.int .u64 a0_0, .int .u64 a0_1], .int .u8 a1, .int .u8 a2, .slice A3 l3.length c3] w fun e w' => e = .returned (.bool r) ∧ Below w.heap.size w w' := by
 have hu24 := Try.underlying24
 have hu28 := Try.underlying28
 have hu35 := Try.underlying35
 have hu42 := Try.underlying42
 have hu40 := Try.underlying40
 have HR3 := am hr3
 have HC3 := am hc3
 clear hr3 hc3
 have HB := am (Below.refl w.heap.size w)
 have H : ((strata_New.f a0_0 a0_1 (wrap64 (1 + (wrap64 (Int.tmod a1 8)))) (wrap64 (1 + (wrap64 (Int.tmod a2 8))))).bind fun bt381 => (if bt381.2.2.2.2.2 = 0 then (samphirelaw21_StrataApart.j0 k a2 l3 bt381.2.2.2.2.2 (decide ((l3.length : Int) > 60)) a0_0 a0_1 bt381.1 bt381.2.1 bt381.2.2.1 bt381.2.2.2.1 bt381.2.2.2.2.1) else (samphirelaw21_StrataApart.j0 k a2 l3 bt381.2.2.2.2.2 true a0_0 a0_1 bt381.1 bt381.2.1 bt381.2.2.1 bt381.2.2.2.1 bt381.2.2.2.2.1))) = some r := h
 clear h
 replace H := Option.bind_eq_some_iff.mp H
 obtain ⟨⟨t381, t382, t383, t384, t385, t388⟩, A50, H⟩ := H
 try dsimp only at H
 have A5 := am A50
 clear A50
 have HC6 := am H
 clear H
 go_enter Try.func4, Try.ntmps4
 go_upto_region 2 with (first | ((with_reducible refine gate_dst (N := 4) rfl ?_); (try (refine gate_guard (by rfl) ?_; dsimp only)); refine be 4 #[.int .u64 a0_0, .int .u64 a0_1] 24 ?_; intro gb380 hg w7 hbox hb; have BK380 := am (hbox); have GW380 := am ((pg hg HB : w.heap.size ≤ gb380)); have GE380 := am ((pg hg HB : w.heap.size ≤ gb380)); replace HB := am (below_step (pb HB) hb); clear hb hbox hg; obtain ⟨hcz8_0, hcz8_1, hfz8_0, hfz8_1⟩ := g2 BK380) | ((with_reducible refine gate_callee (f := 8) rfl ?_); refine gl (some 31) Try.func8 #[.agg #[.int .u64 a0_0, .int .u64 a0_1], .int .i64 (wrap64 (1 + (wrap64 (Int.tmod a1 8)))), .int .i64 (wrap64 (1 + (wrap64 (Int.tmod a2 8))))] ?_; (with_reducible refine (strata_New.calls a0_0 a0_1 (wrap64 (1 + (wrap64 (Int.tmod a1 8)))) (wrap64 (1 + (wrap64 (Int.tmod a2 8)))) t381 t382 t383 t384 t385 t388 _ A5.out).mono ?_); rintro e w9 ⟨v386, rfl, ho0, hb⟩; refine ⟨_, rfl, ?_⟩; have HO387 := am (Kd.V_lower (Kd.V_mono (ok' := fun k_ => k_ ≠ gb380) ho0 (fun k_ hk_ => (Kd.freshB (g := gb380) (o := .cells #[.int .u64 a0_0, .int .u64 a0_1] 24 (0, 0)) (pk BK380.out) k_ hk_))) (below_size (pb HB))); replace BK380 := am (blk_below (pk BK380.out) hb); replace HB := am (below_step (pb HB) hb); (try clear hb); (try clear hb2); (try clear hk); (try clear hi); (try clear ho0)) | ((with_reducible refine gate_dst (N := 9) rfl ?_); (try (refine gate_guard (by rfl) ?_; dsimp only)); refine be 9 #[.int .u64 0, .int .u64 0, .int .i64 0, .int .i64 0, .slice none 0 0] 28 ?_; intro gb389 hg w10 hbox hb; replace HO387 := am (Kd.V_below (Kd.V_elderB (pv HO387.out) gb389 (Nat.le_of_eq hg.symm)) hb); have BK389 := am (hbox); have GW389 := am ((pg hg HB : w.heap.size ≤ gb389)); have GE389 := am ((pg hg HB : w.heap.size ≤ gb389)); replace HB := am (below_step (pb HB) hb); obtain ⟨NB380_389, NB389_380, hnc11, hnb11⟩ := pm hg BK380; replace BK380 := am (blk_below (pk BK380.out) hb); clear hb hbox hg; obtain ⟨hcz12_0, hcz12_1, hcz12_2, hcz12_3, hcz12_4, hfz12_0, hfz12_1, hfz12_2, hfz12_3, hfz12_4⟩ := g5 BK389; obtain ⟨Ao13, co13, eo13⟩ := Kd.V_slice HO387.out; subst eo13))
 (try simp only [Act.put, List.setIfInBounds_toArray, List.set_cons_zero, List.set_cons_succ])
 go_cut [40] (fun v40 wc => ∃ (kq : Nat) (x40_5 : Bool), v40 = .bool x40_5 ∧ Aside0 (samphirelaw21_StrataApart.j0 kq a2 l3 t388 x40_5 a0_0 a0_1 t381 t382 t383 t384 t385 = some r) ∧ Aside0 (kq ≤ k) ∧ Aside0 (Kd.V k42 42 wc w.heap.size (fun k_ => k_ ≠ gb380 ∧ k_ ≠ gb389) (.slice Ao13 t385.length co13) t385) ∧ Aside0 (wc.heap[gb380]? = some (.cells #[.int .u64 a0_0, .int .u64 a0_1] 24 (0, 0))) ∧ Aside0 (wc.heap[gb389]? = some (.cells #[.int .u64 t381, .int .u64 t382, .int .i64 t383, .int .i64 t384, (.slice Ao13 t385.length co13)] 28 (0, 0))) ∧ Aside0 (Below w.heap.size w wc))
 case first =>
  have H := HC6.out
  clear HC6
  by_cases c14 : t388 = 0
  ·rw [if_pos c14] at H
   have c14b0 : (t388 == 0) = true := beq_iff_eq.mpr c14
   have c14b1 : (t388 != 0) = false := bne_eq_false_iff_eq.mpr c14
   clear c14
   (first | rw [c14b0] | (simp only [i64_w, i32_w]; rw [c14b0]) | skip)
   have H' := am H
   clear H
   go_wp2
   go_meet
   case rel => exact ⟨_, (decide ((l3.length : Int) > 60)), (by first | rfl | (simp; done) | (simp [*]; done)), H', ⟨by first | omega | exact Nat.le_refl _⟩, ⟨by refine pv ?_; exact Kd.V_mono (Kd.V_far (p := ⟨gb389, 4, none⟩) (Kd.V_far (p := ⟨gb389, 3, none⟩) (Kd.V_far (p := ⟨gb389, 2, none⟩) (Kd.V_far (p := ⟨gb389, 1, none⟩) (Kd.V_far (p := ⟨gb389, 0, none⟩) (Kd.V_mono HO387.out (fun k_ hk => (⟨hk, hk.2⟩ : _ ∧ k_ ≠ gb389))) (fun _ hk => hk.2) (.int .u64 t381)) (fun _ hk => hk.2) (.int .u64 t382)) (fun _ hk => hk.2) (.int .i64 t383)) (fun _ hk => hk.2) (.int .i64 t384)) (fun _ hk => hk.2) (.slice Ao13 t385.length co13)) (fun _ hk => ⟨hk.1.1, hk.1.2⟩)⟩, ⟨by refine pk ?_; refine blk_far ?_ NB380_389.out _; refine pk ?_; refine blk_far ?_ NB380_389.out _; refine pk ?_; refine blk_far ?_ NB380_389.out _; refine pk ?_; refine blk_far ?_ NB380_389.out _; refine pk ?_; refine blk_far ?_ NB380_389.out _; refine pk ?_; exact BK380.out⟩, ⟨by refine pk ?_; refine blk_put (cs := #[.int .u64 t381, .int .u64 t382, .int .i64 t383, .int .i64 t384, .slice none 0 0]) ?_ 4 _ rfl; refine pk ?_; refine blk_put (cs := #[.int .u64 t381, .int .u64 t382, .int .i64 t383, .int .i64 0, .slice none 0 0]) ?_ 3 _ rfl; refine pk ?_; refine blk_put (cs := #[.int .u64 t381, .int .u64 t382, .int .i64 0, .int .i64 0, .slice none 0 0]) ?_ 2 _ rfl; refine pk ?_; refine blk_put (cs := #[.int .u64 t381, .int .u64 0, .int .i64 0, .int .i64 0, .slice none 0 0]) ?_ 1 _ rfl; refine pk ?_; refine blk_put (cs := #[.int .u64 0, .int .u64 0, .int .i64 0, .int .i64 0, .slice none 0 0]) ?_ 0 _ rfl; refine pk ?_; exact BK389.out⟩, ⟨pb HB⟩⟩
  ·rw [if_neg c14] at H
   have c14b0 : (t388 == 0) = false := beq_eq_false_iff_ne.mpr c14
   have c14b1 : (t388 != 0) = true := bne_iff_ne.mpr c14
   (first | rw [c14b0] | (simp only [i64_w, i32_w]; rw [c14b0]) | skip)
   have H' := am H
   clear H
   go_wp2
   go_meet
   case rel => exact ⟨_, (true), (by first | rfl | (simp; done) | (simp [*]; done)), H', ⟨by first | omega | exact Nat.le_refl _⟩, ⟨by refine pv ?_; exact Kd.V_mono (Kd.V_far (p := ⟨gb389, 4, none⟩) (Kd.V_far (p := ⟨gb389, 3, none⟩) (Kd.V_far (p := ⟨gb389, 2, none⟩) (Kd.V_far (p := ⟨gb389, 1, none⟩) (Kd.V_far (p := ⟨gb389, 0, none⟩) (Kd.V_mono HO387.out (fun k_ hk => (⟨hk, hk.2⟩ : _ ∧ k_ ≠ gb389))) (fun _ hk => hk.2) (.int .u64 t381)) (fun _ hk => hk.2) (.int .u64 t382)) (fun _ hk => hk.2) (.int .i64 t383)) (fun _ hk => hk.2) (.int .i64 t384)) (fun _ hk => hk.2) (.slice Ao13 t385.length co13)) (fun _ hk => ⟨hk.1.1, hk.1.2⟩)⟩, ⟨by refine pk ?_; refine blk_far ?_ NB380_389.out _; refine pk ?_; refine blk_far ?_ NB380_389.out _; refine pk ?_; refine blk_far ?_ NB380_389.out _; refine pk ?_; refine blk_far ?_ NB380_389.out _; refine pk ?_; refine blk_far ?_ NB380_389.out _; refine pk ?_; exact BK380.out⟩, ⟨by refine pk ?_; refine blk_put (cs := #[.int .u64 t381, .int .u64 t382, .int .i64 t383, .int .i64 t384, .slice none 0 0]) ?_ 4 _ rfl; refine pk ?_; refine blk_put (cs := #[.int .u64 t381, .int .u64 t382, .int .i64 t383, .int .i64 0, .slice none 0 0]) ?_ 3 _ rfl; refine pk ?_; refine blk_put (cs := #[.int .u64 t381, .int .u64 t382, .int .i64 0, .int .i64 0, .slice none 0 0]) ?_ 2 _ rfl; refine pk ?_; refine blk_put (cs := #[.int .u64 t381, .int .u64 0, .int .i64 0, .int .i64 0, .slice none 0 0]) ?_ 1 _ rfl; refine pk ?_; refine blk_put (cs := #[.int .u64 0, .int .u64 0, .int .i64 0, .int .i64 0, .slice none 0 0]) ?_ 0 _ rfl; refine pk ?_; exact BK389.out⟩, ⟨pb HB⟩⟩
 case rest =>
  clear HC6
  try clear c1
  try clear p2
  try clear c3
  try clear c4
  try clear p6
  try clear c8
  try clear c11
  try clear c14
  try clear c14b0
  try clear c14b1
  try clear hcz12_0 hcz12_1 hcz12_2 hcz12_3 hcz12_4
  try clear hcz8_0 hcz8_1
  try clear hfz12_0 hfz12_1 hfz12_2 hfz12_3 hfz12_4
  try clear hfz8_0 hfz8_1
  obtain ⟨kq, x40_5, rfl, HA, HJ5, HO_390004, BK380, BK389, HB⟩ := hcut
  cases kq with
  | zero => exact absurd HA.out (by simp [samphirelaw21_StrataApart.j0])
  | succ kj5 =>
   have H := HA.out
   clear HA
   simp only [samphirelaw21_StrataApart.j0] at H
   by_cases c15 : x40_5 = true
   ·subst c15
    have H1 : (if t388 = 0 then ((samphirelaw21_awake.f kj5).bind fun t390 => (some t390)) else (some false)) = some r := by rw [if_pos rfl] at H; exact H
    clear H
    have H := H1
    clear H1
    by_cases c16 : t388 = 0
    ·rw [if_pos c16] at H
     have c16b0 : (t388 == 0) = true := beq_iff_eq.mpr c16
     have c16b1 : (t388 != 0) = false := bne_eq_false_iff_eq.mpr c16
     clear c16
     replace H := Option.bind_eq_some_iff.mp H
     obtain ⟨t390, A170, H⟩ := H
     try dsimp only at H
     have A17 := am A170
     clear A170
     obtain rfl := Option.some.inj H
     go_wp2_with (first | (go_at_call 9; (with_reducible refine (samphirelaw21_awake.calls kj5  t390 hrT _ A17.out).mono ?_); rintro e w18 ⟨rfl, hb⟩; replace HO_390004 := am (Kd.V_below (pv HO_390004.out) hb); replace BK380 := am (blk_below (pk BK380.out) hb); replace BK389 := am (blk_below (pk BK389.out) hb); replace HB := am (below_step (pb HB) hb); (try clear hb); (try clear hb2); (try clear hk); (try clear hi)))
     go_ret
     exact ⟨by first | rfl | (simp [errW_none, errW_some] <;> rfl) | (simp [*, errW_none, errW_some] <;> rfl), pb HB⟩
    ·rw [if_neg c16] at H
     exact Bool.noConfusion ((Option.some.inj H).trans hrT.out)
   ·replace c15 := Bool.eq_false_iff.mpr c15
    subst c15
    have H1 : (samphirelaw21_StrataApart.l0 kj5 a2 l3 l3 (l3.length : Int) 0 a0_0 a0_1 t381 t382 t383 t384 t385) = some r := by rw [if_neg (show ¬ (false = true) by decide)] at H; exact H
    clear H
    have H := H1
    clear H1
    have H' := am H
    clear H
    go_wp2
    go_loopg [48] kj5 (fun kq v48 w' => ∃ (x48_2 : Int) (x390000_2 : Int) (x390001_2 : Int) (x390002_2 : Int) (x390003_2 : Int) (x390004_2 : List (S42)) (u390004 : Value), v48 = .int .i64 x48_2 ∧ Aside0 (samphirelaw21_StrataApart.l0 kq a2 l3 l3 (l3.length : Int) x48_2 a0_0 a0_1 x390000_2 x390001_2 x390002_2 x390003_2 x390004_2 = some r) ∧ Aside0 (kq ≤ kj5) ∧ Aside0 (Kd.V k42 42 w' w.heap.size (fun k_ => k_ ≠ gb380 ∧ k_ ≠ gb389) u390004 x390004_2) ∧ Aside0 (w'.heap[gb380]? = some (.cells #[.int .u64 a0_0, .int .u64 a0_1] 24 (0, 0))) ∧ Aside0 (w'.heap[gb389]? = some (.cells #[.int .u64 x390000_2, .int .u64 x390001_2, .int .i64 x390002_2, .int .i64 x390003_2, u390004] 28 (0, 0))) ∧ Aside0 (Below w.heap.size w w'))
    case atStart => exact ⟨(0), (t381), (t382), (t383), (t384), (t385), (.slice Ao13 t385.length co13), (by first | rfl | (simp; done) | (simp [*]; done)), H', ⟨Nat.le_refl _⟩, ⟨pv HO_390004.out⟩, ⟨pk BK380.out⟩, ⟨pk BK389.out⟩, ⟨pb HB⟩⟩
    case round =>
     clear H'
     try clear c1
     try clear p2
     try clear c3
     try clear c4
     try clear p6
     try clear c8
     try clear c11
     try clear c14
     try clear c14b0
     try clear c14b1
     try clear c15
     try clear c16
     try clear c16b0
     try clear c16b1
     try clear hcz12_0 hcz12_1 hcz12_2 hcz12_3 hcz12_4
     try clear hcz8_0 hcz8_1
     try clear hfz12_0 hfz12_1 hfz12_2 hfz12_3 hfz12_4
     try clear hfz8_0 hfz8_1
     try clear p2
     try clear p6
     obtain ⟨x48_2, x390000_2, x390001_2, x390002_2, x390003_2, x390004_2, u390004, rfl, HA, HK2, HO_390004, BK380, BK389, HB⟩ := hrel
     cases gk with
     | zero => exact absurd HA.out (by simp [samphirelaw21_StrataApart.l0])
     | succ k2 =>
      have H := HA.out
      clear HA
      simp only [samphirelaw21_StrataApart.l0] at H
      by_cases c19 : x48_2 < (l3.length : Int)
      ·rw [if_pos c19] at H
       have c19b0 : decide (x48_2 < (l3.length : Int)) = true := decide_eq_true c19
       clear c19
       by_cases c20 : 0 ≤ x48_2
       ·rw [if_pos c20] at H
        have c20b0 : decide (0 ≤ x48_2) = true := decide_eq_true c20
        clear c20
        by_cases c21 : x48_2 < (l3.length : Int)
        ·rw [if_pos c21] at H
         have c21b0 : decide (x48_2 < (l3.length : Int)) = true := decide_eq_true c21
         clear c21
         have HC22 := am H
         clear H
         have p391 : 0 ≤ (x48_2 : Int) := of_decide_eq_true (by first | (with_reducible assumption) | assumption)
         have q391 : x48_2 < (l3.length : Int) := of_decide_eq_true (by first | (with_reducible assumption) | assumption)
         obtain ⟨ad391, e391, hx391_0, hx391_1, hx391_2, hx391_3⟩ := at_T35 HR3.out x48_2 p391 q391
         cases e391
         replace hx391_0 := (HB.out.cell (World.block_lt_of_cell? w _ hx391_0)).trans hx391_0
         replace hx391_1 := (HB.out.cell (World.block_lt_of_cell? w _ hx391_1)).trans hx391_1
         replace hx391_2 := (HB.out.cell (World.block_lt_of_cell? w _ hx391_2)).trans hx391_2
         replace hx391_3 := (HB.out.cell (World.block_lt_of_cell? w _ hx391_3)).trans hx391_3
         replace p391 := eq_true p391
         replace q391 := eq_true q391
         go_upto_region 7 with (first | ((with_reducible refine gate_dst (N := 12) rfl ?_); (try (refine gate_guard (by rfl) ?_; dsimp only)); refine be 12 #[.string (⟨#[]⟩ : ByteArray), .string (⟨#[]⟩ : ByteArray), .int .u64 0, .int .u8 0] 35 ?_; intro gb392 hg w23 hbox hb; replace HO_390004 := am (Kd.V_below (Kd.V_elderB (pv HO_390004.out) gb392 (Nat.le_of_eq hg.symm)) hb); have BK392 := am (hbox); have GW392 := am ((pg hg HB : w.heap.size ≤ gb392)); have GE392 := am ((pg hg HB : w.heap.size ≤ gb392)); replace HB := am (below_step (pb HB) hb); obtain ⟨NB380_392, NB392_380, hnc24, hnb24⟩ := pm hg BK380; replace BK380 := am (blk_below (pk BK380.out) hb); obtain ⟨NB389_392, NB392_389, hnc25, hnb25⟩ := pm hg BK389; replace BK389 := am (blk_below (pk BK389.out) hb); clear hb hbox hg; obtain ⟨hcz26_0, hcz26_1, hcz26_2, hcz26_3, hfz26_0, hfz26_1, hfz26_2, hfz26_3⟩ := g4 BK392))
         (try simp only [Act.put, List.setIfInBounds_toArray, List.set_cons_zero, List.set_cons_succ])
         go_cut [66] (fun v66 wc => ∃ (kq : Nat) (x66_21 : Bool), v66 = .bool x66_21 ∧ Aside0 (samphirelaw21_StrataApart.j2 kq a2 l3 l3 (l3.length : Int) x48_2 x66_21 a0_0 a0_1 x390000_2 x390001_2 x390002_2 x390003_2 x390004_2 ((rd_T35 l3 x48_2).f0) ((rd_T35 l3 x48_2).f1) ((rd_T35 l3 x48_2).f2) ((rd_T35 l3 x48_2).f3) = some r) ∧ Aside0 (kq ≤ k2) ∧ Aside0 (Kd.V k42 42 wc w.heap.size (fun k_ => k_ ≠ gb380 ∧ k_ ≠ gb389 ∧ k_ ≠ gb392) u390004 x390004_2) ∧ Aside0 (wc.heap[gb380]? = some (.cells #[.int .u64 a0_0, .int .u64 a0_1] 24 (0, 0))) ∧ Aside0 (wc.heap[gb389]? = some (.cells #[.int .u64 x390000_2, .int .u64 x390001_2, .int .i64 x390002_2, .int .i64 x390003_2, u390004] 28 (0, 0))) ∧ Aside0 (wc.heap[gb392]? = some (.cells #[.string ((rd_T35 l3 x48_2).f0), .string ((rd_T35 l3 x48_2).f1), .int .u64 ((rd_T35 l3 x48_2).f2), .int .u8 ((rd_T35 l3 x48_2).f3)] 35 (0, 0))) ∧ Aside0 (Below w.heap.size w wc))
         case first =>
          have H := HC22.out
          clear HC22
          by_cases c27 : (((rd_T35 l3 x48_2).f0).size : Int) > 64
          ·rw [if_pos c27] at H
           have c27b0 : decide (64 < (((rd_T35 l3 x48_2).f0).size : Int)) = true := decide_eq_true c27
           have c27b1 : decide (64 < ((rd_T35 l3 x48_2).f0).size) = true := decide_eq_true (by omega)
           clear c27
           (first | rw [c27b0] | (simp only [i64_w, i32_w]; rw [c27b0]) | skip)
           have H' := am H
           clear H
           have hnb28 := NB392_380.out
           have hnc28 := NB380_392.out
           have hnb29 := NB392_389.out
           have hnc29 := NB389_392.out
           obtain ⟨hcz30_0, hcz30_1, hcz30_2, hcz30_3, hfz30_0, hfz30_1, hfz30_2, hfz30_3⟩ := g4 BK392
           go_wp2
           go_meet
           case rel => exact ⟨_, (true), (by first | rfl | (simp; done) | (simp [*]; done)), H', ⟨by have := HJ5.out; have := HK2.out; first | omega | exact Nat.le_refl _⟩, ⟨by refine pv ?_; exact Kd.V_mono (Kd.V_far (p := ⟨gb392, 3, none⟩) (Kd.V_far (p := ⟨gb392, 2, none⟩) (Kd.V_far (p := ⟨gb392, 1, none⟩) (Kd.V_far (p := ⟨gb392, 0, none⟩) (Kd.V_mono HO_390004.out (fun k_ hk => (⟨hk, hk.2⟩ : _ ∧ k_ ≠ gb392))) (fun _ hk => hk.2) (.string ((rd_T35 l3 x48_2).f0))) (fun _ hk => hk.2) (.string ((rd_T35 l3 x48_2).f1))) (fun _ hk => hk.2) (.int .u64 ((rd_T35 l3 x48_2).f2))) (fun _ hk => hk.2) (.int .u8 ((rd_T35 l3 x48_2).f3))) (fun _ hk => ⟨hk.1.1.1, ⟨hk.1.1.2, hk.1.2⟩⟩)⟩, ⟨by refine pk ?_; refine blk_far ?_ NB380_392.out _; refine pk ?_; refine blk_far ?_ NB380_392.out _; refine pk ?_; refine blk_far ?_ NB380_392.out _; refine pk ?_; refine blk_far ?_ NB380_392.out _; refine pk ?_; exact BK380.out⟩, ⟨by refine pk ?_; refine blk_far ?_ NB389_392.out _; refine pk ?_; refine blk_far ?_ NB389_392.out _; refine pk ?_; refine blk_far ?_ NB389_392.out _; refine pk ?_; refine blk_far ?_ NB389_392.out _; refine pk ?_; exact BK389.out⟩, ⟨by refine pk ?_; refine blk_put (cs := #[.string ((rd_T35 l3 x48_2).f0), .string ((rd_T35 l3 x48_2).f1), .int .u64 ((rd_T35 l3 x48_2).f2), .int .u8 0]) ?_ 3 _ rfl; refine pk ?_; refine blk_put (cs := #[.string ((rd_T35 l3 x48_2).f0), .string ((rd_T35 l3 x48_2).f1), .int .u64 0, .int .u8 0]) ?_ 2 _ rfl; refine pk ?_; refine blk_put (cs := #[.string ((rd_T35 l3 x48_2).f0), .string (⟨#[]⟩ : ByteArray), .int .u64 0, .int .u8 0]) ?_ 1 _ rfl; refine pk ?_; refine blk_put (cs := #[.string (⟨#[]⟩ : ByteArray), .string (⟨#[]⟩ : ByteArray), .int .u64 0, .int .u8 0]) ?_ 0 _ rfl; refine pk ?_; exact BK392.out⟩, ⟨pb HB⟩⟩
          ·rw [if_neg c27] at H
           have c27b0 : decide (64 < (((rd_T35 l3 x48_2).f0).size : Int)) = false := decide_eq_false c27
           have c27b1 : decide (64 < ((rd_T35 l3 x48_2).f0).size) = false := decide_eq_false (by omega)
           clear c27
           (first | rw [c27b0] | (simp only [i64_w, i32_w]; rw [c27b0]) | skip)
           by_cases c31 : (((rd_T35 l3 x48_2).f1).size : Int) > 64
           ·rw [if_pos c31] at H
            have c31b0 : decide (64 < (((rd_T35 l3 x48_2).f1).size : Int)) = true := decide_eq_true c31
            have c31b1 : decide (64 < ((rd_T35 l3 x48_2).f1).size) = true := decide_eq_true (by omega)
            clear c31
            have H' := am H
            clear H
            have hnb32 := NB392_380.out
            have hnc32 := NB380_392.out
            have hnb33 := NB392_389.out
            have hnc33 := NB389_392.out
            obtain ⟨hcz34_0, hcz34_1, hcz34_2, hcz34_3, hfz34_0, hfz34_1, hfz34_2, hfz34_3⟩ := g4 BK392
            go_wp2
            go_meet
            case rel => exact ⟨_, (true), (by first | rfl | (simp; done) | (simp [*]; done)), H', ⟨by have := HJ5.out; have := HK2.out; first | omega | exact Nat.le_refl _⟩, ⟨by refine pv ?_; exact Kd.V_mono (Kd.V_far (p := ⟨gb392, 3, none⟩) (Kd.V_far (p := ⟨gb392, 2, none⟩) (Kd.V_far (p := ⟨gb392, 1, none⟩) (Kd.V_far (p := ⟨gb392, 0, none⟩) (Kd.V_mono HO_390004.out (fun k_ hk => (⟨hk, hk.2⟩ : _ ∧ k_ ≠ gb392))) (fun _ hk => hk.2) (.string ((rd_T35 l3 x48_2).f0))) (fun _ hk => hk.2) (.string ((rd_T35 l3 x48_2).f1))) (fun _ hk => hk.2) (.int .u64 ((rd_T35 l3 x48_2).f2))) (fun _ hk => hk.2) (.int .u8 ((rd_T35 l3 x48_2).f3))) (fun _ hk => ⟨hk.1.1.1, ⟨hk.1.1.2, hk.1.2⟩⟩)⟩, ⟨by refine pk ?_; refine blk_far ?_ NB380_392.out _; refine pk ?_; refine blk_far ?_ NB380_392.out _; refine pk ?_; refine blk_far ?_ NB380_392.out _; refine pk ?_; refine blk_far ?_ NB380_392.out _; refine pk ?_; exact BK380.out⟩, ⟨by refine pk ?_; refine blk_far ?_ NB389_392.out _; refine pk ?_; refine blk_far ?_ NB389_392.out _; refine pk ?_; refine blk_far ?_ NB389_392.out _; refine pk ?_; refine blk_far ?_ NB389_392.out _; refine pk ?_; exact BK389.out⟩, ⟨by refine pk ?_; refine blk_put (cs := #[.string ((rd_T35 l3 x48_2).f0), .string ((rd_T35 l3 x48_2).f1), .int .u64 ((rd_T35 l3 x48_2).f2), .int .u8 0]) ?_ 3 _ rfl; refine pk ?_; refine blk_put (cs := #[.string ((rd_T35 l3 x48_2).f0), .string ((rd_T35 l3 x48_2).f1), .int .u64 0, .int .u8 0]) ?_ 2 _ rfl; refine pk ?_; refine blk_put (cs := #[.string ((rd_T35 l3 x48_2).f0), .string (⟨#[]⟩ : ByteArray), .int .u64 0, .int .u8 0]) ?_ 1 _ rfl; refine pk ?_; refine blk_put (cs := #[.string (⟨#[]⟩ : ByteArray), .string (⟨#[]⟩ : ByteArray), .int .u64 0, .int .u8 0]) ?_ 0 _ rfl; refine pk ?_; exact BK392.out⟩, ⟨pb HB⟩⟩
           ·rw [if_neg c31] at H
            have c31b0 : decide (64 < (((rd_T35 l3 x48_2).f1).size : Int)) = false := decide_eq_false c31
            have c31b1 : decide (64 < ((rd_T35 l3 x48_2).f1).size) = false := decide_eq_false (by omega)
            clear c31
            have H' := am H
            clear H
            have hnb35 := NB392_380.out
            have hnc35 := NB380_392.out
            have hnb36 := NB392_389.out
            have hnc36 := NB389_392.out
            obtain ⟨hcz37_0, hcz37_1, hcz37_2, hcz37_3, hfz37_0, hfz37_1, hfz37_2, hfz37_3⟩ := g4 BK392
            go_wp2
            go_meet
            case rel => exact ⟨_, ((((rd_T35 l3 x48_2).f2) == 0)), (by first | rfl | (simp; done) | (simp [*]; done)), H', ⟨by have := HJ5.out; have := HK2.out; first | omega | exact Nat.le_refl _⟩, ⟨by refine pv ?_; exact Kd.V_mono (Kd.V_far (p := ⟨gb392, 3, none⟩) (Kd.V_far (p := ⟨gb392, 2, none⟩) (Kd.V_far (p := ⟨gb392, 1, none⟩) (Kd.V_far (p := ⟨gb392, 0, none⟩) (Kd.V_mono HO_390004.out (fun k_ hk => (⟨hk, hk.2⟩ : _ ∧ k_ ≠ gb392))) (fun _ hk => hk.2) (.string ((rd_T35 l3 x48_2).f0))) (fun _ hk => hk.2) (.string ((rd_T35 l3 x48_2).f1))) (fun _ hk => hk.2) (.int .u64 ((rd_T35 l3 x48_2).f2))) (fun _ hk => hk.2) (.int .u8 ((rd_T35 l3 x48_2).f3))) (fun _ hk => ⟨hk.1.1.1, ⟨hk.1.1.2, hk.1.2⟩⟩)⟩, ⟨by refine pk ?_; refine blk_far ?_ NB380_392.out _; refine pk ?_; refine blk_far ?_ NB380_392.out _; refine pk ?_; refine blk_far ?_ NB380_392.out _; refine pk ?_; refine blk_far ?_ NB380_392.out _; refine pk ?_; exact BK380.out⟩, ⟨by refine pk ?_; refine blk_far ?_ NB389_392.out _; refine pk ?_; refine blk_far ?_ NB389_392.out _; refine pk ?_; refine blk_far ?_ NB389_392.out _; refine pk ?_; refine blk_far ?_ NB389_392.out _; refine pk ?_; exact BK389.out⟩, ⟨by refine pk ?_; refine blk_put (cs := #[.string ((rd_T35 l3 x48_2).f0), .string ((rd_T35 l3 x48_2).f1), .int .u64 ((rd_T35 l3 x48_2).f2), .int .u8 0]) ?_ 3 _ rfl; refine pk ?_; refine blk_put (cs := #[.string ((rd_T35 l3 x48_2).f0), .string ((rd_T35 l3 x48_2).f1), .int .u64 0, .int .u8 0]) ?_ 2 _ rfl; refine pk ?_; refine blk_put (cs := #[.string ((rd_T35 l3 x48_2).f0), .string (⟨#[]⟩ : ByteArray), .int .u64 0, .int .u8 0]) ?_ 1 _ rfl; refine pk ?_; refine blk_put (cs := #[.string (⟨#[]⟩ : ByteArray), .string (⟨#[]⟩ : ByteArray), .int .u64 0, .int .u8 0]) ?_ 0 _ rfl; refine pk ?_; exact BK392.out⟩, ⟨pb HB⟩⟩
         case rest =>
          clear HC22
          try clear c1
          try clear c2
          try clear p2
          try clear c3
          try clear p3
          try clear q3
          try clear hx3
          try clear c4
          try clear p6
          try clear c8
          try clear c11
          try clear c14
          try clear c14b0
          try clear c14b1
          try clear c15
          try clear c16
          try clear c16b0
          try clear c16b1
          try clear c19
          try clear c19b0
          try clear c20
          try clear c20b0
          try clear c21
          try clear c21b0
          try clear c24
          try clear c25
          try clear c27
          try clear c27b0
          try clear c27b1
          try clear c28
          try clear c29
          try clear c31
          try clear c31b0
          try clear c31b1
          try clear c32
          try clear c33
          try clear c35
          try clear c36
          try clear hcz12_0 hcz12_1 hcz12_2 hcz12_3 hcz12_4
          try clear hcz26_0 hcz26_1 hcz26_2 hcz26_3
          try clear hcz30_0 hcz30_1 hcz30_2 hcz30_3
          try clear hcz34_0 hcz34_1 hcz34_2 hcz34_3
          try clear hcz37_0 hcz37_1 hcz37_2 hcz37_3
          try clear hcz8_0 hcz8_1
          try clear hfz12_0 hfz12_1 hfz12_2 hfz12_3 hfz12_4
          try clear hfz26_0 hfz26_1 hfz26_2 hfz26_3
          try clear hfz30_0 hfz30_1 hfz30_2 hfz30_3
          try clear hfz34_0 hfz34_1 hfz34_2 hfz34_3
          try clear hfz37_0 hfz37_1 hfz37_2 hfz37_3
          try clear hfz8_0 hfz8_1
          try clear hx391_0
          try clear hx391_1
          try clear hx391_2
          try clear hx391_3
          try clear p2
          try clear p391
          try clear p6
          try clear q391
          obtain ⟨kq, x66_21, rfl, HA, HJ21, HO_390004, BK380, BK389, BK392, HB⟩ := hcut
          cases kq with
          | zero => exact absurd HA.out (by simp [samphirelaw21_StrataApart.j2])
          | succ kj21 =>
           have H := HA.out
           clear HA
           simp only [samphirelaw21_StrataApart.j2] at H
           by_cases c38 : x66_21 = true
           ·subst c38
            have H1 : ((samphirelaw21_awake.f kj21).bind fun t393 => (some t393)) = some r := by rw [if_pos rfl] at H; exact H
            clear H
            have H := H1
            clear H1
            replace H := Option.bind_eq_some_iff.mp H
            obtain ⟨t393, A390, H⟩ := H
            try dsimp only at H
            have A39 := am A390
            clear A390
            obtain rfl := Option.some.inj H
            go_wp2_with (first | ((with_reducible refine gate_callee (f := 9) rfl ?_); refine gl (some 67) Try.func9 #[] ?_; (with_reducible refine (samphirelaw21_awake.calls kj21  t393 hrT _ A39.out).mono ?_); rintro e w40 ⟨rfl, hb⟩; refine ⟨_, rfl, ?_⟩; replace HO_390004 := am (Kd.V_below (pv HO_390004.out) hb); replace BK380 := am (blk_below (pk BK380.out) hb); replace BK389 := am (blk_below (pk BK389.out) hb); replace BK392 := am (blk_below (pk BK392.out) hb); replace HB := am (below_step (pb HB) hb); (try clear hb); (try clear hb2); (try clear hk); (try clear hi)))
            go_ret
            exact ⟨by first | rfl | (simp [errW_none, errW_some] <;> rfl) | (simp [*, errW_none, errW_some] <;> rfl), pb HB⟩
           ·replace c38 := Bool.eq_false_iff.mpr c38
            subst c38
            have H1 : ((strata_Add.f kj21 x390000_2 x390001_2 x390002_2 x390003_2 x390004_2 ((rd_T35 l3 x48_2).f0) ((rd_T35 l3 x48_2).f1) ((rd_T35 l3 x48_2).f2)).bind fun bt394 => (samphirelaw21_StrataApart.l0 kj21 a2 l3 l3 (l3.length : Int) (wrap64 (x48_2 + 1)) a0_0 a0_1 bt394.1 bt394.2.1 bt394.2.2.1 bt394.2.2.2.1 bt394.2.2.2.2.1)) = some r := by rw [if_neg (show ¬ (false = true) by decide)] at H; exact H
            clear H
            have H := H1
            clear H1
            replace H := Option.bind_eq_some_iff.mp H
            obtain ⟨⟨t394, t395, t396, t397, t398, t401⟩, A410, H⟩ := H
            try dsimp only at H
            have A41 := am A410
            clear A410
            have H' := am H
            clear H
            have hnb42 := NB389_380.out
            have hnc42 := NB380_389.out
            have hnb43 := NB389_392.out
            have hnc43 := NB392_389.out
            obtain ⟨hcz44_0, hcz44_1, hcz44_2, hcz44_3, hcz44_4, hfz44_0, hfz44_1, hfz44_2, hfz44_3, hfz44_4⟩ := g5 BK389
            have hnb45 := NB392_380.out
            have hnc45 := NB380_392.out
            obtain ⟨hcz46_0, hcz46_1, hcz46_2, hcz46_3, hfz46_0, hfz46_1, hfz46_2, hfz46_3⟩ := g4 BK392
            obtain ⟨Ao47, co47, eo47⟩ := Kd.V_slice HO_390004.out
            subst eo47
            go_wp2_with (first | ((with_reducible refine gate_callee (f := 10) rfl ?_); refine gl (some 76) Try.func10 #[.agg #[.int .u64 x390000_2, .int .u64 x390001_2, .int .i64 x390002_2, .int .i64 x390003_2, .slice Ao47 x390004_2.length co47], .string ((rd_T35 l3 x48_2).f0), .string ((rd_T35 l3 x48_2).f1), .int .u64 ((rd_T35 l3 x48_2).f2)] ?_; (with_reducible refine (strata_Add.calls kj21 x390000_2 x390001_2 x390002_2 x390003_2 (fun k_ => (k_ ≠ gb380 ∧ (k_ ≠ gb389 ∧ k_ ≠ gb392))) _ _ x390004_2 ((rd_T35 l3 x48_2).f0) ((rd_T35 l3 x48_2).f1) ((rd_T35 l3 x48_2).f2) t394 t395 t396 t397 t398 t401 _ ?side1 A41.out).mono ?_); (case side1 => exact HO_390004.out); rintro e w48 ⟨v399, rfl, ho0, hb⟩; refine ⟨_, rfl, ?_⟩; replace HO_390004 := am (Kd.V_below (pv HO_390004.out) hb); have HO400 := am (Kd.V_lower (Kd.V_mono (ok' := fun k_ => k_ ≠ gb380 ∧ k_ ≠ gb389 ∧ k_ ≠ gb392) ho0 (fun k_ hk_ => ⟨Or.elim hk_ (fun hs_ => hs_.1) (fun hn_ => (Kd.freshB (g := gb380) (o := .cells #[.int .u64 a0_0, .int .u64 a0_1] 24 (0, 0)) (pk BK380.out) k_ hn_)), Or.elim hk_ (fun hs_ => hs_.2.1) (fun hn_ => (Kd.freshB (g := gb389) (o := .cells #[.int .u64 x390000_2, .int .u64 x390001_2, .int .i64 x390002_2, .int .i64 x390003_2, .slice Ao47 x390004_2.length co47] 28 (0, 0)) (pk BK389.out) k_ hn_)), Or.elim hk_ (fun hs_ => hs_.2.2) (fun hn_ => (Kd.freshB (g := gb392) (o := .cells #[.string ((rd_T35 l3 x48_2).f0), .string ((rd_T35 l3 x48_2).f1), .int .u64 ((rd_T35 l3 x48_2).f2), .int .u8 ((rd_T35 l3 x48_2).f3)] 35 (0, 0)) (pk BK392.out) k_ hn_))⟩)) (below_size (pb HB))); replace BK380 := am (blk_below (pk BK380.out) hb); replace BK389 := am (blk_below (pk BK389.out) hb); replace BK392 := am (blk_below (pk BK392.out) hb); replace HB := am (below_step (pb HB) hb); (try clear hb); (try clear hb2); (try clear hk); (try clear hi); (try clear ho0); obtain ⟨hcz49_0, hcz49_1, hcz49_2, hcz49_3, hcz49_4, hfz49_0, hfz49_1, hfz49_2, hfz49_3, hfz49_4⟩ := g5 BK389; obtain ⟨Ao50, co50, eo50⟩ := Kd.V_slice HO400.out; subst eo50))
            go_roundg kj21
            case measure => have := HJ5.out; have := HK2.out; have := HJ21.out; omega
            case rel => exact ⟨(wrap64 (x48_2 + 1)), (t394), (t395), (t396), (t397), (t398), (.slice Ao50 t398.length co50), (by first | rfl | (simp; done) | (simp [*]; done)), H', ⟨by have := HJ5.out; have := HK2.out; have := HJ21.out; omega⟩, ⟨by refine pv ?_; exact Kd.V_mono (Kd.V_far (p := ⟨gb389, 4, none⟩) (Kd.V_far (p := ⟨gb389, 3, none⟩) (Kd.V_far (p := ⟨gb389, 2, none⟩) (Kd.V_far (p := ⟨gb389, 1, none⟩) (Kd.V_far (p := ⟨gb389, 0, none⟩) (Kd.V_mono HO400.out (fun k_ hk => (⟨hk, hk.2.1⟩ : _ ∧ k_ ≠ gb389))) (fun _ hk => hk.2) (.int .u64 t394)) (fun _ hk => hk.2) (.int .u64 t395)) (fun _ hk => hk.2) (.int .i64 t396)) (fun _ hk => hk.2) (.int .i64 t397)) (fun _ hk => hk.2) (.slice Ao50 t398.length co50)) (fun _ hk => ⟨hk.1.1, hk.1.2.1⟩)⟩, ⟨by refine pk ?_; refine blk_far ?_ NB380_389.out _; refine pk ?_; refine blk_far ?_ NB380_389.out _; refine pk ?_; refine blk_far ?_ NB380_389.out _; refine pk ?_; refine blk_far ?_ NB380_389.out _; refine pk ?_; refine blk_far ?_ NB380_389.out _; refine pk ?_; exact BK380.out⟩, ⟨by refine pk ?_; refine blk_put (cs := #[.int .u64 t394, .int .u64 t395, .int .i64 t396, .int .i64 t397, .slice Ao47 x390004_2.length co47]) ?_ 4 _ rfl; refine pk ?_; refine blk_put (cs := #[.int .u64 t394, .int .u64 t395, .int .i64 t396, .int .i64 x390003_2, .slice Ao47 x390004_2.length co47]) ?_ 3 _ rfl; refine pk ?_; refine blk_put (cs := #[.int .u64 t394, .int .u64 t395, .int .i64 x390002_2, .int .i64 x390003_2, .slice Ao47 x390004_2.length co47]) ?_ 2 _ rfl; refine pk ?_; refine blk_put (cs := #[.int .u64 t394, .int .u64 x390001_2, .int .i64 x390002_2, .int .i64 x390003_2, .slice Ao47 x390004_2.length co47]) ?_ 1 _ rfl; refine pk ?_; refine blk_put (cs := #[.int .u64 x390000_2, .int .u64 x390001_2, .int .i64 x390002_2, .int .i64 x390003_2, .slice Ao47 x390004_2.length co47]) ?_ 0 _ rfl; refine pk ?_; exact BK389.out⟩, ⟨pb HB⟩⟩
        ·rw [if_neg c21] at H
         exact absurd H (by simp)
       ·rw [if_neg c20] at H
        exact absurd H (by simp)
      ·rw [if_neg c19] at H
       have c19b0 : decide (x48_2 < (l3.length : Int)) = false := decide_eq_false c19
       clear c19
       have H' := am H
       clear H
       have hnb51 := NB389_380.out
       have hnc51 := NB380_389.out
       obtain ⟨hcz52_0, hcz52_1, hcz52_2, hcz52_3, hcz52_4, hfz52_0, hfz52_1, hfz52_2, hfz52_3, hfz52_4⟩ := g5 BK389
       obtain ⟨Ao53, co53, eo53⟩ := Kd.V_slice HO_390004.out
       subst eo53
       go_wp2
       go_loopg [83] k2 (fun kq v83 w' => ∃ (x83_3 : Int), v83 = .int .i64 x83_3 ∧ Aside0 (samphirelaw21_StrataApart.l1 kq a2 l3 x390004_2 (x390004_2.length : Int) x83_3 a0_0 a0_1 x390000_2 x390001_2 x390002_2 x390003_2 x390004_2 = some r) ∧ Aside0 (kq ≤ k2) ∧ Aside0 (Kd.V k42 42 w' w.heap.size (fun k_ => k_ ≠ gb380 ∧ k_ ≠ gb389) (.slice Ao53 x390004_2.length co53) x390004_2) ∧ Aside0 (Kd.V k42 42 w' w.heap.size (fun k_ => k_ ≠ gb380 ∧ k_ ≠ gb389) (.slice Ao53 x390004_2.length co53) x390004_2) ∧ Aside0 (w'.heap[gb380]? = some (.cells #[.int .u64 a0_0, .int .u64 a0_1] 24 (0, 0))) ∧ Aside0 (w'.heap[gb389]? = some (.cells #[.int .u64 x390000_2, .int .u64 x390001_2, .int .i64 x390002_2, .int .i64 x390003_2, (.slice Ao53 x390004_2.length co53)] 28 (0, 0))) ∧ Aside0 (Below w.heap.size w w'))
       case atStart => exact ⟨(0), (by first | rfl | (simp; done) | (simp [*]; done)), H', ⟨Nat.le_refl _⟩, ⟨pv HO_390004.out⟩, ⟨pv HO_390004.out⟩, ⟨pk BK380.out⟩, ⟨pk BK389.out⟩, ⟨pb HB⟩⟩
       case round =>
        clear H'
        try clear c1
        try clear c2
        try clear p2
        try clear c3
        try clear p3
        try clear q3
        try clear hx3
        try clear c4
        try clear c5
        try clear p6
        try clear c8
        try clear c9
        try clear c10
        try clear c11
        try clear c14
        try clear c14b0
        try clear c14b1
        try clear c15
        try clear c16
        try clear c16b0
        try clear c16b1
        try clear c19
        try clear c19b0
        try clear c20
        try clear c20b0
        try clear c21
        try clear c21b0
        try clear c24
        try clear c25
        try clear c27
        try clear c27b0
        try clear c27b1
        try clear c28
        try clear c29
        try clear c31
        try clear c31b0
        try clear c31b1
        try clear c32
        try clear c33
        try clear c35
        try clear c36
        try clear c38
        try clear p39
        try clear q39
        try clear hx39
        try clear c42
        try clear c43
        try clear c45
        try clear c51
        try clear hcz12_0 hcz12_1 hcz12_2 hcz12_3 hcz12_4
        try clear hcz26_0 hcz26_1 hcz26_2 hcz26_3
        try clear hcz30_0 hcz30_1 hcz30_2 hcz30_3
        try clear hcz34_0 hcz34_1 hcz34_2 hcz34_3
        try clear hcz37_0 hcz37_1 hcz37_2 hcz37_3
        try clear hcz44_0 hcz44_1 hcz44_2 hcz44_3 hcz44_4
        try clear hcz46_0 hcz46_1 hcz46_2 hcz46_3
        try clear hcz49_0 hcz49_1 hcz49_2 hcz49_3 hcz49_4
        try clear hcz52_0 hcz52_1 hcz52_2 hcz52_3 hcz52_4
        try clear hcz8_0 hcz8_1
        try clear hfz12_0 hfz12_1 hfz12_2 hfz12_3 hfz12_4
        try clear hfz26_0 hfz26_1 hfz26_2 hfz26_3
        try clear hfz30_0 hfz30_1 hfz30_2 hfz30_3
        try clear hfz34_0 hfz34_1 hfz34_2 hfz34_3
        try clear hfz37_0 hfz37_1 hfz37_2 hfz37_3
        try clear hfz44_0 hfz44_1 hfz44_2 hfz44_3 hfz44_4
        try clear hfz46_0 hfz46_1 hfz46_2 hfz46_3
        try clear hfz49_0 hfz49_1 hfz49_2 hfz49_3 hfz49_4
        try clear hfz52_0 hfz52_1 hfz52_2 hfz52_3 hfz52_4
        try clear hfz8_0 hfz8_1
        try clear hx391_0
        try clear hx391_1
        try clear hx391_2
        try clear hx391_3
        try clear p2
        try clear p3
        try clear p391
        try clear p6
        try clear q3
        try clear q391
        obtain ⟨x83_3, rfl, HA, HK3, HO_81, HO_390004, BK380, BK389, HB⟩ := hrel
        cases gk with
        | zero => exact absurd HA.out (by simp [samphirelaw21_StrataApart.l1])
        | succ k3 =>
         have H := HA.out
         clear HA
         simp only [samphirelaw21_StrataApart.l1] at H
         by_cases c54 : x83_3 < (x390004_2.length : Int)
         ·rw [if_pos c54] at H
          have c54b0 : decide (x83_3 < (x390004_2.length : Int)) = true := decide_eq_true c54
          clear c54
          by_cases c55 : 0 ≤ x83_3
          ·rw [if_pos c55] at H
           have c55b0 : decide (0 ≤ x83_3) = true := decide_eq_true c55
           clear c55
           by_cases c56 : x83_3 < (x390004_2.length : Int)
           ·rw [if_pos c56] at H
            have c56b0 : decide (x83_3 < (x390004_2.length : Int)) = true := decide_eq_true c56
            clear c56
            replace H := Option.bind_eq_some_iff.mp H
            obtain ⟨⟨t405, t406, t407, t408, t411⟩, A570, H⟩ := H
            try dsimp only at H
            have A57 := am A570
            clear A570
            have H' := am H
            clear H
            have p403 : 0 ≤ (x83_3 : Int) := of_decide_eq_true (by first | (with_reducible assumption) | assumption)
            have q403 : x83_3 < (x390004_2.length : Int) := of_decide_eq_true (by first | (with_reducible assumption) | assumption)
            obtain ⟨ad403, A403_5, c403_5, e403, hx403_0, hx403_1, hx403_2, hx403_3, hx403_4, hx403_5, hl403_5, hi403_5⟩ := at_T42 (Kd.V_reads' HO_81.out).2.2 x83_3 p403 q403
            cases e403
            obtain ⟨ce403, hce403, hMe403, hcc403⟩ := Kd.V_get HO_81.out z42 x83_3 p403 (by first | exact q403 | exact of_decide_eq_true (by first | (with_reducible assumption) | assumption) | (have e_ := (Kd.V_reads' HO_81.out).1; omega))
            obtain ⟨ua403_5, uc403_5, rfl, ul403_5, ge403_5⟩ := k42_openF hMe403
            have hv403_5 := hcc403 5 _ rfl
            rw [add_field _ _ 5 (by omega)] at hv403_5
            replace hv403_5 := Option.some.inj (hv403_5.symm.trans hx403_5)
            injection hv403_5 with hva_ hvn_ hvc_
            rw [hva_] at ge403_5
            rw [hvc_] at ul403_5
            have HL403_5 := am (show Kd.V k87 87 _ w.heap.size _ _ ((rd_T42 x390004_2 x83_3).f2.f2) from Kd.V_mk ul403_5 ge403_5)
            clear hva_ hvn_ hvc_ ge403_5 ul403_5 hcc403 hce403
            have HR403_5 := am hi403_5
            have HC403_5 := am hl403_5
            clear hi403_5 hl403_5
            replace p403 := eq_true p403
            replace q403 := eq_true q403
            go_wp2_with (first | ((with_reducible refine gate_dst (N := 14) rfl ?_); (try (refine gate_guard (by rfl) ?_; dsimp only)); refine be 14 #[.string (⟨#[]⟩ : ByteArray), .int .u64 0, .int .u64 0, .int .u64 0, .int .i64 0, .slice none 0 0] 42 ?_; intro gb404 hg w58 hbox hb; replace HO_81 := am (Kd.V_below (Kd.V_elderB (pv HO_81.out) gb404 (Nat.le_of_eq hg.symm)) hb); replace HO_390004 := am (Kd.V_below (Kd.V_elderB (pv HO_390004.out) gb404 (Nat.le_of_eq hg.symm)) hb); replace HL403_5 := am (Kd.V_below (Kd.V_elderB (pv HL403_5.out) gb404 (Nat.le_of_eq hg.symm)) hb); have BK404 := am (hbox); have GW404 := am ((pg hg HB : w.heap.size ≤ gb404)); have GE404 := am ((pg hg HB : w.heap.size ≤ gb404)); replace HB := am (below_step (pb HB) hb); obtain ⟨NB380_404, NB404_380, hnc59, hnb59⟩ := pm hg BK380; replace BK380 := am (blk_below (pk BK380.out) hb); obtain ⟨NB389_404, NB404_389, hnc60, hnb60⟩ := pm hg BK389; replace BK389 := am (blk_below (pk BK389.out) hb); clear hb hbox hg; obtain ⟨hcz61_0, hcz61_1, hcz61_2, hcz61_3, hcz61_4, hcz61_5, hfz61_0, hfz61_1, hfz61_2, hfz61_3, hfz61_4, hfz61_5⟩ := g6 BK404; have hnb62 := NB380_389.out; have hnc62 := NB389_380.out; obtain ⟨hcz63_0, hcz63_1, hfz63_0, hfz63_1⟩ := g2 BK380) | ((with_reducible refine gate_callee (f := 12) rfl ?_); refine gl (some 93) Try.func12 #[.agg #[.int .u64 a0_0, .int .u64 a0_1], .int .i64 (wrap64 (1 + (wrap64 (Int.tmod a2 8))))] ?_; (with_reducible refine (bottom_New.calls a0_0 a0_1 (wrap64 (1 + (wrap64 (Int.tmod a2 8)))) t405 t406 t407 t408 t411 _ A57.out).mono ?_); rintro e w64 ⟨v409, rfl, ho0, hb⟩; refine ⟨_, rfl, ?_⟩; replace HO_81 := am (Kd.V_below (pv ((Kd.V_mono (Kd.V_far (p := ⟨gb404, 5, none⟩) (Kd.V_far (p := ⟨gb404, 4, none⟩) (Kd.V_far (p := ⟨gb404, 3, none⟩) (Kd.V_far (p := ⟨gb404, 2, none⟩) (Kd.V_far (p := ⟨gb404, 1, none⟩) (Kd.V_far (p := ⟨gb404, 0, none⟩) (Kd.V_mono HO_81.out (fun k_ hk => (⟨hk, hk.2⟩ : _ ∧ k_ ≠ gb404))) (fun _ hk => hk.2) (.string ((rd_T42 x390004_2 x83_3).f0))) (fun _ hk => hk.2) (.int .u64 ((rd_T42 x390004_2 x83_3).f1))) (fun _ hk => hk.2) (.int .u64 ((rd_T42 x390004_2 x83_3).f2.f0.f0))) (fun _ hk => hk.2) (.int .u64 ((rd_T42 x390004_2 x83_3).f2.f0.f1))) (fun _ hk => hk.2) (.int .i64 ((rd_T42 x390004_2 x83_3).f2.f1))) (fun _ hk => hk.2) (.slice A403_5 ((rd_T42 x390004_2 x83_3).f2.f2).length c403_5)) (fun _ h_ => h_.1)))) hb); replace HO_390004 := am (Kd.V_below (pv ((Kd.V_mono (Kd.V_far (p := ⟨gb404, 5, none⟩) (Kd.V_far (p := ⟨gb404, 4, none⟩) (Kd.V_far (p := ⟨gb404, 3, none⟩) (Kd.V_far (p := ⟨gb404, 2, none⟩) (Kd.V_far (p := ⟨gb404, 1, none⟩) (Kd.V_far (p := ⟨gb404, 0, none⟩) (Kd.V_mono HO_390004.out (fun k_ hk => (⟨hk, hk.2⟩ : _ ∧ k_ ≠ gb404))) (fun _ hk => hk.2) (.string ((rd_T42 x390004_2 x83_3).f0))) (fun _ hk => hk.2) (.int .u64 ((rd_T42 x390004_2 x83_3).f1))) (fun _ hk => hk.2) (.int .u64 ((rd_T42 x390004_2 x83_3).f2.f0.f0))) (fun _ hk => hk.2) (.int .u64 ((rd_T42 x390004_2 x83_3).f2.f0.f1))) (fun _ hk => hk.2) (.int .i64 ((rd_T42 x390004_2 x83_3).f2.f1))) (fun _ hk => hk.2) (.slice A403_5 ((rd_T42 x390004_2 x83_3).f2.f2).length c403_5)) (fun _ h_ => h_.1)))) hb); replace HL403_5 := am (Kd.V_below (pv ((Kd.V_mono (Kd.V_far (p := ⟨gb404, 5, none⟩) (Kd.V_far (p := ⟨gb404, 4, none⟩) (Kd.V_far (p := ⟨gb404, 3, none⟩) (Kd.V_far (p := ⟨gb404, 2, none⟩) (Kd.V_far (p := ⟨gb404, 1, none⟩) (Kd.V_far (p := ⟨gb404, 0, none⟩) (Kd.V_mono HL403_5.out (fun k_ hk => (⟨hk, hk.2⟩ : _ ∧ k_ ≠ gb404))) (fun _ hk => hk.2) (.string ((rd_T42 x390004_2 x83_3).f0))) (fun _ hk => hk.2) (.int .u64 ((rd_T42 x390004_2 x83_3).f1))) (fun _ hk => hk.2) (.int .u64 ((rd_T42 x390004_2 x83_3).f2.f0.f0))) (fun _ hk => hk.2) (.int .u64 ((rd_T42 x390004_2 x83_3).f2.f0.f1))) (fun _ hk => hk.2) (.int .i64 ((rd_T42 x390004_2 x83_3).f2.f1))) (fun _ hk => hk.2) (.slice A403_5 ((rd_T42 x390004_2 x83_3).f2.f2).length c403_5)) (fun _ h_ => h_.1)))) hb); have HO410 := am (Kd.V_lower (Kd.V_mono (ok' := fun k_ => k_ ≠ gb380 ∧ k_ ≠ gb389 ∧ k_ ≠ gb404) ho0 (fun k_ hk_ => ⟨(Kd.freshB (g := gb380) (o := .cells #[.int .u64 a0_0, .int .u64 a0_1] 24 (0, 0)) (by refine pk ?_; refine blk_far ?_ NB380_404.out _; refine pk ?_; refine blk_far ?_ NB380_404.out _; refine pk ?_; refine blk_far ?_ NB380_404.out _; refine pk ?_; refine blk_far ?_ NB380_404.out _; refine pk ?_; refine blk_far ?_ NB380_404.out _; refine pk ?_; refine blk_far ?_ NB380_404.out _; refine pk ?_; exact BK380.out) k_ hk_), (Kd.freshB (g := gb389) (o := .cells #[.int .u64 x390000_2, .int .u64 x390001_2, .int .i64 x390002_2, .int .i64 x390003_2, .slice (some ad403) x390004_2.length co53] 28 (0, 0)) (by refine pk ?_; refine blk_far ?_ NB389_404.out _; refine pk ?_; refine blk_far ?_ NB389_404.out _; refine pk ?_; refine blk_far ?_ NB389_404.out _; refine pk ?_; refine blk_far ?_ NB389_404.out _; refine pk ?_; refine blk_far ?_ NB389_404.out _; refine pk ?_; refine blk_far ?_ NB389_404.out _; refine pk ?_; exact BK389.out) k_ hk_), (Kd.freshB (g := gb404) (o := .cells #[.string ((rd_T42 x390004_2 x83_3).f0), .int .u64 ((rd_T42 x390004_2 x83_3).f1), .int .u64 ((rd_T42 x390004_2 x83_3).f2.f0.f0), .int .u64 ((rd_T42 x390004_2 x83_3).f2.f0.f1), .int .i64 ((rd_T42 x390004_2 x83_3).f2.f1), .slice A403_5 ((rd_T42 x390004_2 x83_3).f2.f2).length c403_5] 42 (0, 0)) (by refine pk ?_; refine blk_put (cs := #[.string ((rd_T42 x390004_2 x83_3).f0), .int .u64 ((rd_T42 x390004_2 x83_3).f1), .int .u64 ((rd_T42 x390004_2 x83_3).f2.f0.f0), .int .u64 ((rd_T42 x390004_2 x83_3).f2.f0.f1), .int .i64 ((rd_T42 x390004_2 x83_3).f2.f1), .slice none 0 0]) ?_ 5 _ rfl; refine pk ?_; refine blk_put (cs := #[.string ((rd_T42 x390004_2 x83_3).f0), .int .u64 ((rd_T42 x390004_2 x83_3).f1), .int .u64 ((rd_T42 x390004_2 x83_3).f2.f0.f0), .int .u64 ((rd_T42 x390004_2 x83_3).f2.f0.f1), .int .i64 0, .slice none 0 0]) ?_ 4 _ rfl; refine pk ?_; refine blk_put (cs := #[.string ((rd_T42 x390004_2 x83_3).f0), .int .u64 ((rd_T42 x390004_2 x83_3).f1), .int .u64 ((rd_T42 x390004_2 x83_3).f2.f0.f0), .int .u64 0, .int .i64 0, .slice none 0 0]) ?_ 3 _ rfl; refine pk ?_; refine blk_put (cs := #[.string ((rd_T42 x390004_2 x83_3).f0), .int .u64 ((rd_T42 x390004_2 x83_3).f1), .int .u64 0, .int .u64 0, .int .i64 0, .slice none 0 0]) ?_ 2 _ rfl; refine pk ?_; refine blk_put (cs := #[.string ((rd_T42 x390004_2 x83_3).f0), .int .u64 0, .int .u64 0, .int .u64 0, .int .i64 0, .slice none 0 0]) ?_ 1 _ rfl; refine pk ?_; refine blk_put (cs := #[.string (⟨#[]⟩ : ByteArray), .int .u64 0, .int .u64 0, .int .u64 0, .int .i64 0, .slice none 0 0]) ?_ 0 _ rfl; refine pk ?_; exact BK404.out) k_ hk_)⟩)) (below_size (pb HB))); replace BK380 := am (blk_below (g := gb380) (o := .cells #[.int .u64 a0_0, .int .u64 a0_1] 24 (0, 0)) (by refine pk ?_; refine blk_far ?_ NB380_404.out _; refine pk ?_; refine blk_far ?_ NB380_404.out _; refine pk ?_; refine blk_far ?_ NB380_404.out _; refine pk ?_; refine blk_far ?_ NB380_404.out _; refine pk ?_; refine blk_far ?_ NB380_404.out _; refine pk ?_; refine blk_far ?_ NB380_404.out _; refine pk ?_; exact BK380.out) hb); replace BK389 := am (blk_below (g := gb389) (o := .cells #[.int .u64 x390000_2, .int .u64 x390001_2, .int .i64 x390002_2, .int .i64 x390003_2, .slice (some ad403) x390004_2.length co53] 28 (0, 0)) (by refine pk ?_; refine blk_far ?_ NB389_404.out _; refine pk ?_; refine blk_far ?_ NB389_404.out _; refine pk ?_; refine blk_far ?_ NB389_404.out _; refine pk ?_; refine blk_far ?_ NB389_404.out _; refine pk ?_; refine blk_far ?_ NB389_404.out _; refine pk ?_; refine blk_far ?_ NB389_404.out _; refine pk ?_; exact BK389.out) hb); replace BK404 := am (blk_below (g := gb404) (o := .cells #[.string ((rd_T42 x390004_2 x83_3).f0), .int .u64 ((rd_T42 x390004_2 x83_3).f1), .int .u64 ((rd_T42 x390004_2 x83_3).f2.f0.f0), .int .u64 ((rd_T42 x390004_2 x83_3).f2.f0.f1), .int .i64 ((rd_T42 x390004_2 x83_3).f2.f1), .slice A403_5 ((rd_T42 x390004_2 x83_3).f2.f2).length c403_5] 42 (0, 0)) (by refine pk ?_; refine blk_put (cs := #[.string ((rd_T42 x390004_2 x83_3).f0), .int .u64 ((rd_T42 x390004_2 x83_3).f1), .int .u64 ((rd_T42 x390004_2 x83_3).f2.f0.f0), .int .u64 ((rd_T42 x390004_2 x83_3).f2.f0.f1), .int .i64 ((rd_T42 x390004_2 x83_3).f2.f1), .slice none 0 0]) ?_ 5 _ rfl; refine pk ?_; refine blk_put (cs := #[.string ((rd_T42 x390004_2 x83_3).f0), .int .u64 ((rd_T42 x390004_2 x83_3).f1), .int .u64 ((rd_T42 x390004_2 x83_3).f2.f0.f0), .int .u64 ((rd_T42 x390004_2 x83_3).f2.f0.f1), .int .i64 0, .slice none 0 0]) ?_ 4 _ rfl; refine pk ?_; refine blk_put (cs := #[.string ((rd_T42 x390004_2 x83_3).f0), .int .u64 ((rd_T42 x390004_2 x83_3).f1), .int .u64 ((rd_T42 x390004_2 x83_3).f2.f0.f0), .int .u64 0, .int .i64 0, .slice none 0 0]) ?_ 3 _ rfl; refine pk ?_; refine blk_put (cs := #[.string ((rd_T42 x390004_2 x83_3).f0), .int .u64 ((rd_T42 x390004_2 x83_3).f1), .int .u64 0, .int .u64 0, .int .i64 0, .slice none 0 0]) ?_ 2 _ rfl; refine pk ?_; refine blk_put (cs := #[.string ((rd_T42 x390004_2 x83_3).f0), .int .u64 0, .int .u64 0, .int .u64 0, .int .i64 0, .slice none 0 0]) ?_ 1 _ rfl; refine pk ?_; refine blk_put (cs := #[.string (⟨#[]⟩ : ByteArray), .int .u64 0, .int .u64 0, .int .u64 0, .int .i64 0, .slice none 0 0]) ?_ 0 _ rfl; refine pk ?_; exact BK404.out) hb); replace HB := am (below_step (pb HB) hb); (try clear hb); (try clear hb2); (try clear hk); (try clear hi); (try clear ho0)) | ((with_reducible refine gate_dst (N := 15) rfl ?_); (try (refine gate_guard (by rfl) ?_; dsimp only)); refine be 15 #[.int .u64 0, .int .u64 0, .int .i64 0, .slice none 0 0] 40 ?_; intro gb412 hg w65 hbox hb; replace HO_81 := am (Kd.V_below (Kd.V_elderB (pv HO_81.out) gb412 (Nat.le_of_eq hg.symm)) hb); replace HO_390004 := am (Kd.V_below (Kd.V_elderB (pv HO_390004.out) gb412 (Nat.le_of_eq hg.symm)) hb); replace HL403_5 := am (Kd.V_below (Kd.V_elderB (pv HL403_5.out) gb412 (Nat.le_of_eq hg.symm)) hb); replace HO410 := am (Kd.V_below (Kd.V_elderB (pv HO410.out) gb412 (Nat.le_of_eq hg.symm)) hb); have BK412 := am (hbox); have GW412 := am ((pg hg HB : w.heap.size ≤ gb412)); have GE412 := am ((pg hg HB : w.heap.size ≤ gb412)); replace HB := am (below_step (pb HB) hb); obtain ⟨NB380_412, NB412_380, hnc66, hnb66⟩ := pm hg BK380; replace BK380 := am (blk_below (pk BK380.out) hb); obtain ⟨NB389_412, NB412_389, hnc67, hnb67⟩ := pm hg BK389; replace BK389 := am (blk_below (pk BK389.out) hb); obtain ⟨NB404_412, NB412_404, hnc68, hnb68⟩ := pm hg BK404; replace BK404 := am (blk_below (pk BK404.out) hb); clear hb hbox hg; obtain ⟨hcz69_0, hcz69_1, hcz69_2, hcz69_3, hfz69_0, hfz69_1, hfz69_2, hfz69_3⟩ := g4 BK412; obtain ⟨Ao70, co70, eo70⟩ := Kd.V_slice HO410.out; subst eo70))
            go_loopg [98] k3 (fun kq v98 w' => ∃ (x98_4 : Int) (x413000_4 : Int) (x413001_4 : Int) (x413002_4 : Int) (x413003_4 : List (S87)) (u413003 : Value), v98 = .int .i64 x98_4 ∧ Aside0 (samphirelaw21_StrataApart.l2 kq a2 l3 x390004_2 (x390004_2.length : Int) x83_3 l3 (l3.length : Int) x98_4 a0_0 a0_1 x390000_2 x390001_2 x390002_2 x390003_2 x390004_2 ((rd_T42 x390004_2 x83_3).f0) ((rd_T42 x390004_2 x83_3).f1) ((rd_T42 x390004_2 x83_3).f2.f0.f0) ((rd_T42 x390004_2 x83_3).f2.f0.f1) ((rd_T42 x390004_2 x83_3).f2.f1) ((rd_T42 x390004_2 x83_3).f2.f2) x413000_4 x413001_4 x413002_4 x413003_4 = some r) ∧ Aside0 (kq ≤ k3) ∧ Aside0 (Kd.V k42 42 w' w.heap.size (fun k_ => k_ ≠ gb380 ∧ k_ ≠ gb389 ∧ k_ ≠ gb404 ∧ k_ ≠ gb412) (.slice (some ad403) x390004_2.length co53) x390004_2) ∧ Aside0 (Kd.V k42 42 w' w.heap.size (fun k_ => k_ ≠ gb380 ∧ k_ ≠ gb389 ∧ k_ ≠ gb404 ∧ k_ ≠ gb412) (.slice (some ad403) x390004_2.length co53) x390004_2) ∧ Aside0 (Kd.V k87 87 w' w.heap.size (fun k_ => k_ ≠ gb380 ∧ k_ ≠ gb389 ∧ k_ ≠ gb404 ∧ k_ ≠ gb412) (.slice A403_5 ((rd_T42 x390004_2 x83_3).f2.f2).length c403_5) ((rd_T42 x390004_2 x83_3).f2.f2)) ∧ Aside0 (Kd.V k87 87 w' w.heap.size (fun k_ => k_ ≠ gb380 ∧ k_ ≠ gb389 ∧ k_ ≠ gb404 ∧ k_ ≠ gb412) u413003 x413003_4) ∧ Aside0 (w'.heap[gb380]? = some (.cells #[.int .u64 a0_0, .int .u64 a0_1] 24 (0, 0))) ∧ Aside0 (w'.heap[gb389]? = some (.cells #[.int .u64 x390000_2, .int .u64 x390001_2, .int .i64 x390002_2, .int .i64 x390003_2, (.slice (some ad403) x390004_2.length co53)] 28 (0, 0))) ∧ Aside0 (w'.heap[gb404]? = some (.cells #[.string ((rd_T42 x390004_2 x83_3).f0), .int .u64 ((rd_T42 x390004_2 x83_3).f1), .int .u64 ((rd_T42 x390004_2 x83_3).f2.f0.f0), .int .u64 ((rd_T42 x390004_2 x83_3).f2.f0.f1), .int .i64 ((rd_T42 x390004_2 x83_3).f2.f1), (.slice A403_5 ((rd_T42 x390004_2 x83_3).f2.f2).length c403_5)] 42 (0, 0))) ∧ Aside0 (w'.heap[gb412]? = some (.cells #[.int .u64 x413000_4, .int .u64 x413001_4, .int .i64 x413002_4, u413003] 40 (0, 0))) ∧ Aside0 (Below w.heap.size w w'))
            case atStart => exact ⟨(0), (t405), (t406), (t407), (t408), (.slice Ao70 t408.length co70), (by first | rfl | (simp; done) | (simp [*]; done)), H', ⟨Nat.le_refl _⟩, ⟨by refine pv ?_; exact Kd.V_mono (Kd.V_far (p := ⟨gb412, 3, none⟩) (Kd.V_far (p := ⟨gb412, 2, none⟩) (Kd.V_far (p := ⟨gb412, 1, none⟩) (Kd.V_far (p := ⟨gb412, 0, none⟩) (Kd.V_mono HO_81.out (fun k_ hk => (⟨hk, hk.2⟩ : _ ∧ k_ ≠ gb412))) (fun _ hk => hk.2) (.int .u64 t405)) (fun _ hk => hk.2) (.int .u64 t406)) (fun _ hk => hk.2) (.int .i64 t407)) (fun _ hk => hk.2) (.slice Ao70 t408.length co70)) (fun _ hk => ⟨hk.1.1.1.1, ⟨hk.1.1.1.2, ⟨hk.1.1.2, hk.1.2⟩⟩⟩)⟩, ⟨by refine pv ?_; exact Kd.V_mono (Kd.V_far (p := ⟨gb412, 3, none⟩) (Kd.V_far (p := ⟨gb412, 2, none⟩) (Kd.V_far (p := ⟨gb412, 1, none⟩) (Kd.V_far (p := ⟨gb412, 0, none⟩) (Kd.V_mono HO_390004.out (fun k_ hk => (⟨hk, hk.2⟩ : _ ∧ k_ ≠ gb412))) (fun _ hk => hk.2) (.int .u64 t405)) (fun _ hk => hk.2) (.int .u64 t406)) (fun _ hk => hk.2) (.int .i64 t407)) (fun _ hk => hk.2) (.slice Ao70 t408.length co70)) (fun _ hk => ⟨hk.1.1.1.1, ⟨hk.1.1.1.2, ⟨hk.1.1.2, hk.1.2⟩⟩⟩)⟩, ⟨by refine pv ?_; exact Kd.V_mono (Kd.V_far (p := ⟨gb412, 3, none⟩) (Kd.V_far (p := ⟨gb412, 2, none⟩) (Kd.V_far (p := ⟨gb412, 1, none⟩) (Kd.V_far (p := ⟨gb412, 0, none⟩) (Kd.V_mono HL403_5.out (fun k_ hk => (⟨hk, hk.2⟩ : _ ∧ k_ ≠ gb412))) (fun _ hk => hk.2) (.int .u64 t405)) (fun _ hk => hk.2) (.int .u64 t406)) (fun _ hk => hk.2) (.int .i64 t407)) (fun _ hk => hk.2) (.slice Ao70 t408.length co70)) (fun _ hk => ⟨hk.1.1.1.1, ⟨hk.1.1.1.2, ⟨hk.1.1.2, hk.1.2⟩⟩⟩)⟩, ⟨by refine pv ?_; exact Kd.V_mono (Kd.V_far (p := ⟨gb412, 3, none⟩) (Kd.V_far (p := ⟨gb412, 2, none⟩) (Kd.V_far (p := ⟨gb412, 1, none⟩) (Kd.V_far (p := ⟨gb412, 0, none⟩) (Kd.V_mono HO410.out (fun k_ hk => (⟨hk, hk.2⟩ : _ ∧ k_ ≠ gb412))) (fun _ hk => hk.2) (.int .u64 t405)) (fun _ hk => hk.2) (.int .u64 t406)) (fun _ hk => hk.2) (.int .i64 t407)) (fun _ hk => hk.2) (.slice Ao70 t408.length co70)) (fun _ hk => ⟨hk.1.1.1, ⟨hk.1.1.2.1, ⟨hk.1.1.2.2, hk.1.2⟩⟩⟩)⟩, ⟨by refine pk ?_; refine blk_far ?_ NB380_412.out _; refine pk ?_; refine blk_far ?_ NB380_412.out _; refine pk ?_; refine blk_far ?_ NB380_412.out _; refine pk ?_; refine blk_far ?_ NB380_412.out _; refine pk ?_; exact BK380.out⟩, ⟨by refine pk ?_; refine blk_far ?_ NB389_412.out _; refine pk ?_; refine blk_far ?_ NB389_412.out _; refine pk ?_; refine blk_far ?_ NB389_412.out _; refine pk ?_; refine blk_far ?_ NB389_412.out _; refine pk ?_; exact BK389.out⟩, ⟨by refine pk ?_; refine blk_far ?_ NB404_412.out _; refine pk ?_; refine blk_far ?_ NB404_412.out _; refine pk ?_; refine blk_far ?_ NB404_412.out _; refine pk ?_; refine blk_far ?_ NB404_412.out _; refine pk ?_; exact BK404.out⟩, ⟨by refine pk ?_; refine blk_put (cs := #[.int .u64 t405, .int .u64 t406, .int .i64 t407, .slice none 0 0]) ?_ 3 _ rfl; refine pk ?_; refine blk_put (cs := #[.int .u64 t405, .int .u64 t406, .int .i64 0, .slice none 0 0]) ?_ 2 _ rfl; refine pk ?_; refine blk_put (cs := #[.int .u64 t405, .int .u64 0, .int .i64 0, .slice none 0 0]) ?_ 1 _ rfl; refine pk ?_; refine blk_put (cs := #[.int .u64 0, .int .u64 0, .int .i64 0, .slice none 0 0]) ?_ 0 _ rfl; refine pk ?_; exact BK412.out⟩, ⟨pb HB⟩⟩
            case round =>
             clear H'
             try clear c1
             try clear c2
             try clear p2
             try clear c3
             try clear p3
             try clear q3
             try clear hx3
             try clear c4
             try clear p4
             try clear q4
             try clear hx4
             try clear c5
             try clear c6
             try clear p6
             try clear c8
             try clear c9
             try clear c10
             try clear c11
             try clear c12
             try clear c14
             try clear c14b0
             try clear c14b1
             try clear c15
             try clear c16
             try clear c16b0
             try clear c16b1
             try clear c19
             try clear c19b0
             try clear c20
             try clear c20b0
             try clear c21
             try clear c21b0
             try clear c24
             try clear c25
             try clear c27
             try clear c27b0
             try clear c27b1
             try clear c28
             try clear c29
             try clear c31
             try clear c31b0
             try clear c31b1
             try clear c32
             try clear c33
             try clear c35
             try clear c36
             try clear c38
             try clear p39
             try clear q39
             try clear hx39
             try clear c40
             try clear p40
             try clear q40
             try clear hx40
             try clear c42
             try clear c43
             try clear c45
             try clear c51
             try clear c54
             try clear c54b0
             try clear c55
             try clear c55b0
             try clear c56
             try clear c56b0
             try clear c59
             try clear c60
             try clear c62
             try clear p64
             try clear c66
             try clear c67
             try clear c68
             try clear hcz12_0 hcz12_1 hcz12_2 hcz12_3 hcz12_4
             try clear hcz26_0 hcz26_1 hcz26_2 hcz26_3
             try clear hcz30_0 hcz30_1 hcz30_2 hcz30_3
             try clear hcz34_0 hcz34_1 hcz34_2 hcz34_3
             try clear hcz37_0 hcz37_1 hcz37_2 hcz37_3
             try clear hcz44_0 hcz44_1 hcz44_2 hcz44_3 hcz44_4
             try clear hcz46_0 hcz46_1 hcz46_2 hcz46_3
             try clear hcz49_0 hcz49_1 hcz49_2 hcz49_3 hcz49_4
             try clear hcz52_0 hcz52_1 hcz52_2 hcz52_3 hcz52_4
             try clear hcz61_0 hcz61_1 hcz61_2 hcz61_3 hcz61_4 hcz61_5
             try clear hcz63_0 hcz63_1
             try clear hcz69_0 hcz69_1 hcz69_2 hcz69_3
             try clear hcz8_0 hcz8_1
             try clear hfz12_0 hfz12_1 hfz12_2 hfz12_3 hfz12_4
             try clear hfz26_0 hfz26_1 hfz26_2 hfz26_3
             try clear hfz30_0 hfz30_1 hfz30_2 hfz30_3
             try clear hfz34_0 hfz34_1 hfz34_2 hfz34_3
             try clear hfz37_0 hfz37_1 hfz37_2 hfz37_3
             try clear hfz44_0 hfz44_1 hfz44_2 hfz44_3 hfz44_4
             try clear hfz46_0 hfz46_1 hfz46_2 hfz46_3
             try clear hfz49_0 hfz49_1 hfz49_2 hfz49_3 hfz49_4
             try clear hfz52_0 hfz52_1 hfz52_2 hfz52_3 hfz52_4
             try clear hfz61_0 hfz61_1 hfz61_2 hfz61_3 hfz61_4 hfz61_5
             try clear hfz63_0 hfz63_1
             try clear hfz69_0 hfz69_1 hfz69_2 hfz69_3
             try clear hfz8_0 hfz8_1
             try clear hx391_0
             try clear hx391_1
             try clear hx391_2
             try clear hx391_3
             try clear hx403_0
             try clear hx403_1
             try clear hx403_2
             try clear hx403_3
             try clear hx403_4
             try clear hx403_5
             try clear p2
             try clear p3
             try clear p39
             try clear p391
             try clear p403
             try clear p6
             try clear q3
             try clear q39
             try clear q391
             try clear q403
             obtain ⟨x98_4, x413000_4, x413001_4, x413002_4, x413003_4, u413003, rfl, HA, HK4, HO_81, HO_390004, HO_405005, HO_413003, BK380, BK389, BK404, BK412, HB⟩ := hrel
             cases gk with
             | zero => exact absurd HA.out (by simp [samphirelaw21_StrataApart.l2])
             | succ k4 =>
              have H := HA.out
              clear HA
              simp only [samphirelaw21_StrataApart.l2] at H
              by_cases c71 : x98_4 < (l3.length : Int)
              ·rw [if_pos c71] at H
               have c71b0 : decide (x98_4 < (l3.length : Int)) = true := decide_eq_true c71
               clear c71
               by_cases c72 : 0 ≤ x98_4
               ·rw [if_pos c72] at H
                have c72b0 : decide (0 ≤ x98_4) = true := decide_eq_true c72
                clear c72
                by_cases c73 : x98_4 < (l3.length : Int)
                ·rw [if_pos c73] at H
                 have c73b0 : decide (x98_4 < (l3.length : Int)) = true := decide_eq_true c73
                 clear c73
                 by_cases c74 : ((rd_T35 l3 x98_4).f0).toList = ((rd_T42 x390004_2 x83_3).f0).toList
                 ·rw [if_pos c74] at H
                  have c74b0 : (((rd_T35 l3 x98_4).f0).toList == ((rd_T42 x390004_2 x83_3).f0).toList) = true := beq_iff_eq.mpr c74
                  have c74b1 : (((rd_T35 l3 x98_4).f0).toList != ((rd_T42 x390004_2 x83_3).f0).toList) = false := bne_eq_false_iff_eq.mpr c74
                  clear c74
                  replace H := Option.bind_eq_some_iff.mp H
                  obtain ⟨⟨t415, t416, t417, t418, t421⟩, A750, H⟩ := H
                  try dsimp only at H
                  have A75 := am A750
                  clear A750
                  have H' := am H
                  clear H
                  have p413 : 0 ≤ (x98_4 : Int) := of_decide_eq_true (by first | (with_reducible assumption) | assumption)
                  have q413 : x98_4 < (l3.length : Int) := of_decide_eq_true (by first | (with_reducible assumption) | assumption)
                  obtain ⟨ad413, e413, hx413_0, hx413_1, hx413_2, hx413_3⟩ := at_T35 HR3.out x98_4 p413 q413
                  cases e413
                  replace hx413_0 := (HB.out.cell (World.block_lt_of_cell? w _ hx413_0)).trans hx413_0
                  replace hx413_1 := (HB.out.cell (World.block_lt_of_cell? w _ hx413_1)).trans hx413_1
                  replace hx413_2 := (HB.out.cell (World.block_lt_of_cell? w _ hx413_2)).trans hx413_2
                  replace hx413_3 := (HB.out.cell (World.block_lt_of_cell? w _ hx413_3)).trans hx413_3
                  replace p413 := eq_true p413
                  replace q413 := eq_true q413
                  go_wp2_with (first | ((with_reducible refine gate_dst (N := 18) rfl ?_); (try (refine gate_guard (by rfl) ?_; dsimp only)); refine be 18 #[.string (⟨#[]⟩ : ByteArray), .string (⟨#[]⟩ : ByteArray), .int .u64 0, .int .u8 0] 35 ?_; intro gb414 hg w76 hbox hb; replace HO_81 := am (Kd.V_below (Kd.V_elderB (pv HO_81.out) gb414 (Nat.le_of_eq hg.symm)) hb); replace HO_390004 := am (Kd.V_below (Kd.V_elderB (pv HO_390004.out) gb414 (Nat.le_of_eq hg.symm)) hb); replace HO_405005 := am (Kd.V_below (Kd.V_elderB (pv HO_405005.out) gb414 (Nat.le_of_eq hg.symm)) hb); replace HO_413003 := am (Kd.V_below (Kd.V_elderB (pv HO_413003.out) gb414 (Nat.le_of_eq hg.symm)) hb); have BK414 := am (hbox); have GW414 := am ((pg hg HB : w.heap.size ≤ gb414)); have GE414 := am ((pg hg HB : w.heap.size ≤ gb414)); replace HB := am (below_step (pb HB) hb); obtain ⟨NB380_414, NB414_380, hnc77, hnb77⟩ := pm hg BK380; replace BK380 := am (blk_below (pk BK380.out) hb); obtain ⟨NB389_414, NB414_389, hnc78, hnb78⟩ := pm hg BK389; replace BK389 := am (blk_below (pk BK389.out) hb); obtain ⟨NB404_414, NB414_404, hnc79, hnb79⟩ := pm hg BK404; replace BK404 := am (blk_below (pk BK404.out) hb); obtain ⟨NB412_414, NB414_412, hnc80, hnb80⟩ := pm hg BK412; replace BK412 := am (blk_below (pk BK412.out) hb); clear hb hbox hg; obtain ⟨hcz81_0, hcz81_1, hcz81_2, hcz81_3, hfz81_0, hfz81_1, hfz81_2, hfz81_3⟩ := g4 BK414) | ((with_reducible refine gate_store (t := 35) (p := 18) rfl ?_); refine store_event (t := 35) (p := 18) (v := ?vo_w82) (w1 := ((((w76.setCell ⟨gb414, 0, none⟩ (.string ((rd_T35 l3 x98_4).f0))).setCell ⟨gb414, 1, none⟩ (.string ((rd_T35 l3 x98_4).f1))).setCell ⟨gb414, 2, none⟩ (.int .u64 ((rd_T35 l3 x98_4).f2))).setCell ⟨gb414, 3, none⟩ (.int .u8 ((rd_T35 l3 x98_4).f3)))) ?hg ?ho ?hn ?hr ?_; (case ho => rfl); (case hg => rfl); (case hn => rfl); (case hr => first | (go_simp; done) | (go_simp; rfl)); intro w82 hw; replace HO_81 := vf (f4 hw) HO_81 (fun _ hk => hk.2); replace HO_390004 := vf (f4 hw) HO_390004 (fun _ hk => hk.2); replace HO_405005 := vf (f4 hw) HO_405005 (fun _ hk => hk.2); replace HO_413003 := vf (f4 hw) HO_413003 (fun _ hk => hk.2); replace BK380 := bf (f4 hw) BK380 NB380_414.out; replace BK389 := bf (f4 hw) BK389 NB389_414.out; replace BK404 := bf (f4 hw) BK404 NB404_414.out; replace BK412 := bf (f4 hw) BK412 NB412_414.out; replace BK414 := s4 hw BK414; replace HB : Aside0 (Below w.heap.size w w82) := ⟨(by rw [hw]; exact (pb HB))⟩; (try simp only [and_assoc] at HO_81 HO_390004 HO_405005 HO_413003); clear hw; obtain ⟨hcz83_0, hcz83_1, hcz83_2, hcz83_3, hfz83_0, hfz83_1, hfz83_2, hfz83_3⟩ := g4 BK414; have hnb84 := NB404_380.out; have hnc84 := NB380_404.out; have hnb85 := NB404_389.out; have hnc85 := NB389_404.out; have hnb86 := NB404_412.out; have hnc86 := NB412_404.out; obtain ⟨hcz87_0, hcz87_1, hcz87_2, hcz87_3, hcz87_4, hcz87_5, hfz87_0, hfz87_1, hfz87_2, hfz87_3, hfz87_4, hfz87_5⟩ := g6 BK404; have hnb88 := NB412_380.out; have hnc88 := NB380_412.out; have hnb89 := NB412_389.out; have hnc89 := NB389_412.out; obtain ⟨hcz90_0, hcz90_1, hcz90_2, hcz90_3, hfz90_0, hfz90_1, hfz90_2, hfz90_3⟩ := g4 BK412; obtain ⟨Ao91, co91, eo91⟩ := Kd.V_slice HO_413003.out; subst eo91) | ((with_reducible refine gate_callee (f := 13) rfl ?_); refine gl (some 113) Try.func13 #[.agg #[.int .u64 x413000_4, .int .u64 x413001_4, .int .i64 x413002_4, .slice Ao91 x413003_4.length co91], .string ((rd_T35 l3 x98_4).f1), .int .u64 ((rd_T35 l3 x98_4).f2)] ?_; (with_reducible refine (bottom_Add.calls k4 x413000_4 x413001_4 x413002_4 (fun k_ => (k_ ≠ gb380 ∧ (k_ ≠ gb389 ∧ (k_ ≠ gb404 ∧ (k_ ≠ gb412 ∧ k_ ≠ gb414))))) _ _ x413003_4 ((rd_T35 l3 x98_4).f1) ((rd_T35 l3 x98_4).f2) t415 t416 t417 t418 t421 _ ?side1 A75.out).mono ?_); (case side1 => exact HO_413003.out); rintro e w92 ⟨v419, rfl, ho0, hb⟩; refine ⟨_, rfl, ?_⟩; replace HO_81 := am (Kd.V_below (pv HO_81.out) hb); replace HO_390004 := am (Kd.V_below (pv HO_390004.out) hb); replace HO_405005 := am (Kd.V_below (pv HO_405005.out) hb); replace HO_413003 := am (Kd.V_below (pv HO_413003.out) hb); have HO420 := am (Kd.V_lower (Kd.V_mono (ok' := fun k_ => k_ ≠ gb380 ∧ k_ ≠ gb389 ∧ k_ ≠ gb404 ∧ k_ ≠ gb412 ∧ k_ ≠ gb414) ho0 (fun k_ hk_ => ⟨Or.elim hk_ (fun hs_ => hs_.1) (fun hn_ => (Kd.freshB (g := gb380) (o := .cells #[.int .u64 a0_0, .int .u64 a0_1] 24 (0, 0)) (pk BK380.out) k_ hn_)), Or.elim hk_ (fun hs_ => hs_.2.1) (fun hn_ => (Kd.freshB (g := gb389) (o := .cells #[.int .u64 x390000_2, .int .u64 x390001_2, .int .i64 x390002_2, .int .i64 x390003_2, .slice (some ad403) x390004_2.length co53] 28 (0, 0)) (pk BK389.out) k_ hn_)), Or.elim hk_ (fun hs_ => hs_.2.2.1) (fun hn_ => (Kd.freshB (g := gb404) (o := .cells #[.string ((rd_T42 x390004_2 x83_3).f0), .int .u64 ((rd_T42 x390004_2 x83_3).f1), .int .u64 ((rd_T42 x390004_2 x83_3).f2.f0.f0), .int .u64 ((rd_T42 x390004_2 x83_3).f2.f0.f1), .int .i64 ((rd_T42 x390004_2 x83_3).f2.f1), .slice A403_5 ((rd_T42 x390004_2 x83_3).f2.f2).length c403_5] 42 (0, 0)) (pk BK404.out) k_ hn_)), Or.elim hk_ (fun hs_ => hs_.2.2.2.1) (fun hn_ => (Kd.freshB (g := gb412) (o := .cells #[.int .u64 x413000_4, .int .u64 x413001_4, .int .i64 x413002_4, .slice Ao91 x413003_4.length co91] 40 (0, 0)) (pk BK412.out) k_ hn_)), Or.elim hk_ (fun hs_ => hs_.2.2.2.2) (fun hn_ => (Kd.freshB (g := gb414) (o := .cells #[.string ((rd_T35 l3 x98_4).f0), .string ((rd_T35 l3 x98_4).f1), .int .u64 ((rd_T35 l3 x98_4).f2), .int .u8 ((rd_T35 l3 x98_4).f3)] 35 (0, 0)) (pk BK414.out) k_ hn_))⟩)) (below_size (pb HB))); replace BK380 := am (blk_below (pk BK380.out) hb); replace BK389 := am (blk_below (pk BK389.out) hb); replace BK404 := am (blk_below (pk BK404.out) hb); replace BK412 := am (blk_below (pk BK412.out) hb); replace BK414 := am (blk_below (pk BK414.out) hb); replace HB := am (below_step (pb HB) hb); (try clear hb); (try clear hb2); (try clear hk); (try clear hi); (try clear ho0); obtain ⟨hcz93_0, hcz93_1, hcz93_2, hcz93_3, hfz93_0, hfz93_1, hfz93_2, hfz93_3⟩ := g4 BK412; obtain ⟨Ao94, co94, eo94⟩ := Kd.V_slice HO420.out; subst eo94))
                  go_roundg k4
                  case measure => have := HJ5.out; have := HK2.out; have := HK3.out; have := HK4.out; omega
                  case rel => exact ⟨(wrap64 (x98_4 + 1)), (t415), (t416), (t417), (t418), (.slice Ao94 t418.length co94), (by first | rfl | (simp; done) | (simp [*]; done)), H', ⟨by have := HJ5.out; have := HK2.out; have := HK3.out; have := HK4.out; omega⟩, ⟨by refine pv ?_; exact Kd.V_mono (Kd.V_far (p := ⟨gb412, 3, none⟩) (Kd.V_far (p := ⟨gb412, 2, none⟩) (Kd.V_far (p := ⟨gb412, 1, none⟩) (Kd.V_far (p := ⟨gb412, 0, none⟩) (Kd.V_mono HO_81.out (fun k_ hk => (⟨hk, hk.2.2.2.1⟩ : _ ∧ k_ ≠ gb412))) (fun _ hk => hk.2) (.int .u64 t415)) (fun _ hk => hk.2) (.int .u64 t416)) (fun _ hk => hk.2) (.int .i64 t417)) (fun _ hk => hk.2) (.slice Ao94 t418.length co94)) (fun _ hk => ⟨hk.1.1, ⟨hk.1.2.1, ⟨hk.1.2.2.1, hk.1.2.2.2.1⟩⟩⟩)⟩, ⟨by refine pv ?_; exact Kd.V_mono (Kd.V_far (p := ⟨gb412, 3, none⟩) (Kd.V_far (p := ⟨gb412, 2, none⟩) (Kd.V_far (p := ⟨gb412, 1, none⟩) (Kd.V_far (p := ⟨gb412, 0, none⟩) (Kd.V_mono HO_390004.out (fun k_ hk => (⟨hk, hk.2.2.2.1⟩ : _ ∧ k_ ≠ gb412))) (fun _ hk => hk.2) (.int .u64 t415)) (fun _ hk => hk.2) (.int .u64 t416)) (fun _ hk => hk.2) (.int .i64 t417)) (fun _ hk => hk.2) (.slice Ao94 t418.length co94)) (fun _ hk => ⟨hk.1.1, ⟨hk.1.2.1, ⟨hk.1.2.2.1, hk.1.2.2.2.1⟩⟩⟩)⟩, ⟨by refine pv ?_; exact Kd.V_mono (Kd.V_far (p := ⟨gb412, 3, none⟩) (Kd.V_far (p := ⟨gb412, 2, none⟩) (Kd.V_far (p := ⟨gb412, 1, none⟩) (Kd.V_far (p := ⟨gb412, 0, none⟩) (Kd.V_mono HO_405005.out (fun k_ hk => (⟨hk, hk.2.2.2.1⟩ : _ ∧ k_ ≠ gb412))) (fun _ hk => hk.2) (.int .u64 t415)) (fun _ hk => hk.2) (.int .u64 t416)) (fun _ hk => hk.2) (.int .i64 t417)) (fun _ hk => hk.2) (.slice Ao94 t418.length co94)) (fun _ hk => ⟨hk.1.1, ⟨hk.1.2.1, ⟨hk.1.2.2.1, hk.1.2.2.2.1⟩⟩⟩)⟩, ⟨by refine pv ?_; exact Kd.V_mono (Kd.V_far (p := ⟨gb412, 3, none⟩) (Kd.V_far (p := ⟨gb412, 2, none⟩) (Kd.V_far (p := ⟨gb412, 1, none⟩) (Kd.V_far (p := ⟨gb412, 0, none⟩) (Kd.V_mono HO420.out (fun k_ hk => (⟨hk, hk.2.2.2.1⟩ : _ ∧ k_ ≠ gb412))) (fun _ hk => hk.2) (.int .u64 t415)) (fun _ hk => hk.2) (.int .u64 t416)) (fun _ hk => hk.2) (.int .i64 t417)) (fun _ hk => hk.2) (.slice Ao94 t418.length co94)) (fun _ hk => ⟨hk.1.1, ⟨hk.1.2.1, ⟨hk.1.2.2.1, hk.1.2.2.2.1⟩⟩⟩)⟩, ⟨by refine pk ?_; refine blk_far ?_ NB380_412.out _; refine pk ?_; refine blk_far ?_ NB380_412.out _; refine pk ?_; refine blk_far ?_ NB380_412.out _; refine pk ?_; refine blk_far ?_ NB380_412.out _; refine pk ?_; exact BK380.out⟩, ⟨by refine pk ?_; refine blk_far ?_ NB389_412.out _; refine pk ?_; refine blk_far ?_ NB389_412.out _; refine pk ?_; refine blk_far ?_ NB389_412.out _; refine pk ?_; refine blk_far ?_ NB389_412.out _; refine pk ?_; exact BK389.out⟩, ⟨by refine pk ?_; refine blk_far ?_ NB404_412.out _; refine pk ?_; refine blk_far ?_ NB404_412.out _; refine pk ?_; refine blk_far ?_ NB404_412.out _; refine pk ?_; refine blk_far ?_ NB404_412.out _; refine pk ?_; exact BK404.out⟩, ⟨by refine pk ?_; refine blk_put (cs := #[.int .u64 t415, .int .u64 t416, .int .i64 t417, .slice Ao91 x413003_4.length co91]) ?_ 3 _ rfl; refine pk ?_; refine blk_put (cs := #[.int .u64 t415, .int .u64 t416, .int .i64 x413002_4, .slice Ao91 x413003_4.length co91]) ?_ 2 _ rfl; refine pk ?_; refine blk_put (cs := #[.int .u64 t415, .int .u64 x413001_4, .int .i64 x413002_4, .slice Ao91 x413003_4.length co91]) ?_ 1 _ rfl; refine pk ?_; refine blk_put (cs := #[.int .u64 x413000_4, .int .u64 x413001_4, .int .i64 x413002_4, .slice Ao91 x413003_4.length co91]) ?_ 0 _ rfl; refine pk ?_; exact BK412.out⟩, ⟨pb HB⟩⟩
                 ·rw [if_neg c74] at H
                  have c74b0 : (((rd_T35 l3 x98_4).f0).toList == ((rd_T42 x390004_2 x83_3).f0).toList) = false := beq_eq_false_iff_ne.mpr c74
                  have c74b1 : (((rd_T35 l3 x98_4).f0).toList != ((rd_T42 x390004_2 x83_3).f0).toList) = true := bne_iff_ne.mpr c74
                  have H' := am H
                  clear H
                  have p413 : 0 ≤ (x98_4 : Int) := of_decide_eq_true (by first | (with_reducible assumption) | assumption)
                  have q413 : x98_4 < (l3.length : Int) := of_decide_eq_true (by first | (with_reducible assumption) | assumption)
                  obtain ⟨ad413, e413, hx413_0, hx413_1, hx413_2, hx413_3⟩ := at_T35 HR3.out x98_4 p413 q413
                  cases e413
                  replace hx413_0 := (HB.out.cell (World.block_lt_of_cell? w _ hx413_0)).trans hx413_0
                  replace hx413_1 := (HB.out.cell (World.block_lt_of_cell? w _ hx413_1)).trans hx413_1
                  replace hx413_2 := (HB.out.cell (World.block_lt_of_cell? w _ hx413_2)).trans hx413_2
                  replace hx413_3 := (HB.out.cell (World.block_lt_of_cell? w _ hx413_3)).trans hx413_3
                  replace p413 := eq_true p413
                  replace q413 := eq_true q413
                  go_wp2_with (first | ((with_reducible refine gate_dst (N := 18) rfl ?_); (try (refine gate_guard (by rfl) ?_; dsimp only)); refine be 18 #[.string (⟨#[]⟩ : ByteArray), .string (⟨#[]⟩ : ByteArray), .int .u64 0, .int .u8 0] 35 ?_; intro gb414 hg w95 hbox hb; replace HO_81 := am (Kd.V_below (Kd.V_elderB (pv HO_81.out) gb414 (Nat.le_of_eq hg.symm)) hb); replace HO_390004 := am (Kd.V_below (Kd.V_elderB (pv HO_390004.out) gb414 (Nat.le_of_eq hg.symm)) hb); replace HO_405005 := am (Kd.V_below (Kd.V_elderB (pv HO_405005.out) gb414 (Nat.le_of_eq hg.symm)) hb); replace HO_413003 := am (Kd.V_below (Kd.V_elderB (pv HO_413003.out) gb414 (Nat.le_of_eq hg.symm)) hb); have BK414 := am (hbox); have GW414 := am ((pg hg HB : w.heap.size ≤ gb414)); have GE414 := am ((pg hg HB : w.heap.size ≤ gb414)); replace HB := am (below_step (pb HB) hb); obtain ⟨NB380_414, NB414_380, hnc96, hnb96⟩ := pm hg BK380; replace BK380 := am (blk_below (pk BK380.out) hb); obtain ⟨NB389_414, NB414_389, hnc97, hnb97⟩ := pm hg BK389; replace BK389 := am (blk_below (pk BK389.out) hb); obtain ⟨NB404_414, NB414_404, hnc98, hnb98⟩ := pm hg BK404; replace BK404 := am (blk_below (pk BK404.out) hb); obtain ⟨NB412_414, NB414_412, hnc99, hnb99⟩ := pm hg BK412; replace BK412 := am (blk_below (pk BK412.out) hb); clear hb hbox hg; obtain ⟨hcz100_0, hcz100_1, hcz100_2, hcz100_3, hfz100_0, hfz100_1, hfz100_2, hfz100_3⟩ := g4 BK414; have hnb101 := NB404_380.out; have hnc101 := NB380_404.out; have hnb102 := NB404_389.out; have hnc102 := NB389_404.out; have hnb103 := NB404_412.out; have hnc103 := NB412_404.out; obtain ⟨hcz104_0, hcz104_1, hcz104_2, hcz104_3, hcz104_4, hcz104_5, hfz104_0, hfz104_1, hfz104_2, hfz104_3, hfz104_4, hfz104_5⟩ := g6 BK404))
                  go_roundg k4
                  case measure => have := HJ5.out; have := HK2.out; have := HK3.out; have := HK4.out; omega
                  case rel => exact ⟨(wrap64 (x98_4 + 1)), (x413000_4), (x413001_4), (x413002_4), (x413003_4), (u413003), (by first | rfl | (simp; done) | (simp [*]; done)), H', ⟨by have := HJ5.out; have := HK2.out; have := HK3.out; have := HK4.out; omega⟩, ⟨by refine pv ?_; exact Kd.V_mono (Kd.V_far (p := ⟨gb414, 3, none⟩) (Kd.V_far (p := ⟨gb414, 2, none⟩) (Kd.V_far (p := ⟨gb414, 1, none⟩) (Kd.V_far (p := ⟨gb414, 0, none⟩) (Kd.V_mono HO_81.out (fun k_ hk => (⟨hk, hk.2⟩ : _ ∧ k_ ≠ gb414))) (fun _ hk => hk.2) (.string ((rd_T35 l3 x98_4).f0))) (fun _ hk => hk.2) (.string ((rd_T35 l3 x98_4).f1))) (fun _ hk => hk.2) (.int .u64 ((rd_T35 l3 x98_4).f2))) (fun _ hk => hk.2) (.int .u8 ((rd_T35 l3 x98_4).f3))) (fun _ hk => ⟨hk.1.1.1, ⟨hk.1.1.2.1, ⟨hk.1.1.2.2.1, hk.1.1.2.2.2⟩⟩⟩)⟩, ⟨by refine pv ?_; exact Kd.V_mono (Kd.V_far (p := ⟨gb414, 3, none⟩) (Kd.V_far (p := ⟨gb414, 2, none⟩) (Kd.V_far (p := ⟨gb414, 1, none⟩) (Kd.V_far (p := ⟨gb414, 0, none⟩) (Kd.V_mono HO_390004.out (fun k_ hk => (⟨hk, hk.2⟩ : _ ∧ k_ ≠ gb414))) (fun _ hk => hk.2) (.string ((rd_T35 l3 x98_4).f0))) (fun _ hk => hk.2) (.string ((rd_T35 l3 x98_4).f1))) (fun _ hk => hk.2) (.int .u64 ((rd_T35 l3 x98_4).f2))) (fun _ hk => hk.2) (.int .u8 ((rd_T35 l3 x98_4).f3))) (fun _ hk => ⟨hk.1.1.1, ⟨hk.1.1.2.1, ⟨hk.1.1.2.2.1, hk.1.1.2.2.2⟩⟩⟩)⟩, ⟨by refine pv ?_; exact Kd.V_mono (Kd.V_far (p := ⟨gb414, 3, none⟩) (Kd.V_far (p := ⟨gb414, 2, none⟩) (Kd.V_far (p := ⟨gb414, 1, none⟩) (Kd.V_far (p := ⟨gb414, 0, none⟩) (Kd.V_mono HO_405005.out (fun k_ hk => (⟨hk, hk.2⟩ : _ ∧ k_ ≠ gb414))) (fun _ hk => hk.2) (.string ((rd_T35 l3 x98_4).f0))) (fun _ hk => hk.2) (.string ((rd_T35 l3 x98_4).f1))) (fun _ hk => hk.2) (.int .u64 ((rd_T35 l3 x98_4).f2))) (fun _ hk => hk.2) (.int .u8 ((rd_T35 l3 x98_4).f3))) (fun _ hk => ⟨hk.1.1.1, ⟨hk.1.1.2.1, ⟨hk.1.1.2.2.1, hk.1.1.2.2.2⟩⟩⟩)⟩, ⟨by refine pv ?_; exact Kd.V_mono (Kd.V_far (p := ⟨gb414, 3, none⟩) (Kd.V_far (p := ⟨gb414, 2, none⟩) (Kd.V_far (p := ⟨gb414, 1, none⟩) (Kd.V_far (p := ⟨gb414, 0, none⟩) (Kd.V_mono HO_413003.out (fun k_ hk => (⟨hk, hk.2⟩ : _ ∧ k_ ≠ gb414))) (fun _ hk => hk.2) (.string ((rd_T35 l3 x98_4).f0))) (fun _ hk => hk.2) (.string ((rd_T35 l3 x98_4).f1))) (fun _ hk => hk.2) (.int .u64 ((rd_T35 l3 x98_4).f2))) (fun _ hk => hk.2) (.int .u8 ((rd_T35 l3 x98_4).f3))) (fun _ hk => ⟨hk.1.1.1, ⟨hk.1.1.2.1, ⟨hk.1.1.2.2.1, hk.1.1.2.2.2⟩⟩⟩)⟩, ⟨by refine pk ?_; refine blk_far ?_ NB380_414.out _; refine pk ?_; refine blk_far ?_ NB380_414.out _; refine pk ?_; refine blk_far ?_ NB380_414.out _; refine pk ?_; refine blk_far ?_ NB380_414.out _; refine pk ?_; exact BK380.out⟩, ⟨by refine pk ?_; refine blk_far ?_ NB389_414.out _; refine pk ?_; refine blk_far ?_ NB389_414.out _; refine pk ?_; refine blk_far ?_ NB389_414.out _; refine pk ?_; refine blk_far ?_ NB389_414.out _; refine pk ?_; exact BK389.out⟩, ⟨by refine pk ?_; refine blk_far ?_ NB404_414.out _; refine pk ?_; refine blk_far ?_ NB404_414.out _; refine pk ?_; refine blk_far ?_ NB404_414.out _; refine pk ?_; refine blk_far ?_ NB404_414.out _; refine pk ?_; exact BK404.out⟩, ⟨by refine pk ?_; refine blk_far ?_ NB412_414.out _; refine pk ?_; refine blk_far ?_ NB412_414.out _; refine pk ?_; refine blk_far ?_ NB412_414.out _; refine pk ?_; refine blk_far ?_ NB412_414.out _; refine pk ?_; exact BK412.out⟩, ⟨pb HB⟩⟩
                ·rw [if_neg c73] at H
                 exact absurd H (by simp)
               ·rw [if_neg c72] at H
                exact absurd H (by simp)
              ·rw [if_neg c71] at H
               have c71b0 : decide (x98_4 < (l3.length : Int)) = false := decide_eq_false c71
               clear c71
               replace H := Option.bind_eq_some_iff.mp H
               obtain ⟨⟨t422, t423, t424, t425, t428⟩, A1050, H⟩ := H
               try dsimp only at H
               have A105 := am A1050
               clear A1050
               by_cases c106 : t428 = 0
               ·rw [if_pos c106] at H
                have c106b0 : (t428 == 0) = true := beq_iff_eq.mpr c106
                have c106b1 : (t428 != 0) = false := bne_eq_false_iff_eq.mpr c106
                clear c106
                replace H := Option.bind_eq_some_iff.mp H
                obtain ⟨t430, A1070, H⟩ := H
                try dsimp only at H
                have A107 := am A1070
                clear A1070
                replace H := Option.bind_eq_some_iff.mp H
                obtain ⟨t433, A1080, H⟩ := H
                try dsimp only at H
                have A108 := am A1080
                clear A1080
                replace H := Option.bind_eq_some_iff.mp H
                obtain ⟨t436, A1090, H⟩ := H
                try dsimp only at H
                have A109 := am A1090
                clear A1090
                by_cases c110 : t436 = true
                ·subst c110
                 have H1 : ((samphirelaw14_Refs.f k4 t425).bind fun t437 => ((samphirelaw14_Refs.f k4 x413003_4).bind fun t440 => ((samphireref14_Same.f k4 t437 t440).bind fun t443 => (if t443 = true then (samphirelaw21_StrataApart.l1 k4 a2 l3 x390004_2 (x390004_2.length : Int) (wrap64 (x83_3 + 1)) a0_0 a0_1 x390000_2 x390001_2 x390002_2 x390003_2 x390004_2) else (some false))))) = some r := by rw [if_pos rfl] at H; exact H
                 clear H
                 have H := H1
                 clear H1
                 replace H := Option.bind_eq_some_iff.mp H
                 obtain ⟨t437, A1110, H⟩ := H
                 try dsimp only at H
                 have A111 := am A1110
                 clear A1110
                 replace H := Option.bind_eq_some_iff.mp H
                 obtain ⟨t440, A1120, H⟩ := H
                 try dsimp only at H
                 have A112 := am A1120
                 clear A1120
                 replace H := Option.bind_eq_some_iff.mp H
                 obtain ⟨t443, A1130, H⟩ := H
                 try dsimp only at H
                 have A113 := am A1130
                 clear A1130
                 by_cases c114 : t443 = true
                 ·subst c114
                  have H1 : (samphirelaw21_StrataApart.l1 k4 a2 l3 x390004_2 (x390004_2.length : Int) (wrap64 (x83_3 + 1)) a0_0 a0_1 x390000_2 x390001_2 x390002_2 x390003_2 x390004_2) = some r := by rw [if_pos rfl] at H; exact H
                  clear H
                  have H := H1
                  clear H1
                  have H' := am H
                  clear H
                  have hnb115 := NB389_380.out
                  have hnc115 := NB380_389.out
                  have hnb116 := NB389_404.out
                  have hnc116 := NB404_389.out
                  have hnb117 := NB389_412.out
                  have hnc117 := NB412_389.out
                  obtain ⟨hcz118_0, hcz118_1, hcz118_2, hcz118_3, hcz118_4, hfz118_0, hfz118_1, hfz118_2, hfz118_3, hfz118_4⟩ := g5 BK389
                  have hnb119 := NB404_380.out
                  have hnc119 := NB380_404.out
                  have hnb120 := NB404_412.out
                  have hnc120 := NB412_404.out
                  obtain ⟨hcz121_0, hcz121_1, hcz121_2, hcz121_3, hcz121_4, hcz121_5, hfz121_0, hfz121_1, hfz121_2, hfz121_3, hfz121_4, hfz121_5⟩ := g6 BK404
                  try go_wp2_with (first | ((with_reducible refine gate_callee (f := 14) rfl ?_); refine gl (some 121) Try.func14 #[.agg #[.int .u64 x390000_2, .int .u64 x390001_2, .int .i64 x390002_2, .int .i64 x390003_2, .slice (some ad403) x390004_2.length co53], .string ((rd_T42 x390004_2 x83_3).f0)] ?_; (with_reducible refine (strata_Get.calls k4 x390000_2 x390001_2 x390002_2 x390003_2 (fun k_ => (k_ ≠ gb380 ∧ (k_ ≠ gb389 ∧ (k_ ≠ gb404 ∧ k_ ≠ gb412)))) _ _ x390004_2 ((rd_T42 x390004_2 x83_3).f0) t422 t423 t424 t425 t428 _ ?side1 A105.out).mono ?_); (case side1 => exact HO_390004.out); rintro e w122 ⟨v426, rfl, ho0, hb⟩; refine ⟨_, rfl, ?_⟩; replace HO_81 := am (Kd.V_below (pv HO_81.out) hb); replace HO_390004 := am (Kd.V_below (pv HO_390004.out) hb); replace HO_405005 := am (Kd.V_below (pv HO_405005.out) hb); replace HO_413003 := am (Kd.V_below (pv HO_413003.out) hb); have HO427 := am (Kd.V_lower (Kd.V_mono (ok' := fun k_ => k_ ≠ gb380 ∧ k_ ≠ gb389 ∧ k_ ≠ gb404 ∧ k_ ≠ gb412) ho0 (fun k_ hk_ => ⟨Or.elim hk_ (fun hs_ => hs_.1) (fun hn_ => (Kd.freshB (g := gb380) (o := .cells #[.int .u64 a0_0, .int .u64 a0_1] 24 (0, 0)) (pk BK380.out) k_ hn_)), Or.elim hk_ (fun hs_ => hs_.2.1) (fun hn_ => (Kd.freshB (g := gb389) (o := .cells #[.int .u64 x390000_2, .int .u64 x390001_2, .int .i64 x390002_2, .int .i64 x390003_2, .slice (some ad403) x390004_2.length co53] 28 (0, 0)) (pk BK389.out) k_ hn_)), Or.elim hk_ (fun hs_ => hs_.2.2.1) (fun hn_ => (Kd.freshB (g := gb404) (o := .cells #[.string ((rd_T42 x390004_2 x83_3).f0), .int .u64 ((rd_T42 x390004_2 x83_3).f1), .int .u64 ((rd_T42 x390004_2 x83_3).f2.f0.f0), .int .u64 ((rd_T42 x390004_2 x83_3).f2.f0.f1), .int .i64 ((rd_T42 x390004_2 x83_3).f2.f1), .slice A403_5 ((rd_T42 x390004_2 x83_3).f2.f2).length c403_5] 42 (0, 0)) (pk BK404.out) k_ hn_)), Or.elim hk_ (fun hs_ => hs_.2.2.2) (fun hn_ => (Kd.freshB (g := gb412) (o := .cells #[.int .u64 x413000_4, .int .u64 x413001_4, .int .i64 x413002_4, u413003] 40 (0, 0)) (pk BK412.out) k_ hn_))⟩)) (below_size (pb HB))); replace BK380 := am (blk_below (pk BK380.out) hb); replace BK389 := am (blk_below (pk BK389.out) hb); replace BK404 := am (blk_below (pk BK404.out) hb); replace BK412 := am (blk_below (pk BK412.out) hb); replace HB := am (below_step (pb HB) hb); (try clear hb); (try clear hb2); (try clear hk); (try clear hi); (try clear ho0)) | ((with_reducible refine gate_dst (N := 19) rfl ?_); (try (refine gate_guard (by rfl) ?_; dsimp only)); refine be 19 #[.int .u64 0, .int .u64 0, .int .i64 0, .slice none 0 0] 40 ?_; intro gb429 hg w123 hbox hb; replace HO_81 := am (Kd.V_below (Kd.V_elderB (pv HO_81.out) gb429 (Nat.le_of_eq hg.symm)) hb); replace HO_390004 := am (Kd.V_below (Kd.V_elderB (pv HO_390004.out) gb429 (Nat.le_of_eq hg.symm)) hb); replace HO_405005 := am (Kd.V_below (Kd.V_elderB (pv HO_405005.out) gb429 (Nat.le_of_eq hg.symm)) hb); replace HO_413003 := am (Kd.V_below (Kd.V_elderB (pv HO_413003.out) gb429 (Nat.le_of_eq hg.symm)) hb); replace HO427 := am (Kd.V_below (Kd.V_elderB (pv HO427.out) gb429 (Nat.le_of_eq hg.symm)) hb); have BK429 := am (hbox); have GW429 := am ((pg hg HB : w.heap.size ≤ gb429)); have GE429 := am ((pg hg HB : w.heap.size ≤ gb429)); replace HB := am (below_step (pb HB) hb); obtain ⟨NB380_429, NB429_380, hnc124, hnb124⟩ := pm hg BK380; replace BK380 := am (blk_below (pk BK380.out) hb); obtain ⟨NB389_429, NB429_389, hnc125, hnb125⟩ := pm hg BK389; replace BK389 := am (blk_below (pk BK389.out) hb); obtain ⟨NB404_429, NB429_404, hnc126, hnb126⟩ := pm hg BK404; replace BK404 := am (blk_below (pk BK404.out) hb); obtain ⟨NB412_429, NB429_412, hnc127, hnb127⟩ := pm hg BK412; replace BK412 := am (blk_below (pk BK412.out) hb); clear hb hbox hg; obtain ⟨hcz128_0, hcz128_1, hcz128_2, hcz128_3, hfz128_0, hfz128_1, hfz128_2, hfz128_3⟩ := g4 BK429; obtain ⟨Ao129, co129, eo129⟩ := Kd.V_slice HO427.out; subst eo129))
                  have n0_ : Aside0 (Kd.V k42 42 ((((w123.setCell ⟨gb429, 0, none⟩ (.int .u64 t422)).setCell ⟨gb429, 1, none⟩ (.int .u64 t423)).setCell ⟨gb429, 2, none⟩ (.int .i64 t424)).setCell ⟨gb429, 3, none⟩ (.slice Ao129 t425.length co129)) w.heap.size (fun k_ => k_ ≠ gb380 ∧ k_ ≠ gb389 ∧ k_ ≠ gb404 ∧ k_ ≠ gb412 ∧ k_ ≠ gb429) (.slice (some ad403) x390004_2.length co53) x390004_2) := ⟨by refine pv ?_; exact Kd.V_mono (Kd.V_far (p := ⟨gb429, 3, none⟩) (Kd.V_far (p := ⟨gb429, 2, none⟩) (Kd.V_far (p := ⟨gb429, 1, none⟩) (Kd.V_far (p := ⟨gb429, 0, none⟩) (Kd.V_mono HO_81.out (fun k_ hk => (⟨hk, hk.2⟩ : _ ∧ k_ ≠ gb429))) (fun _ hk => hk.2) (.int .u64 t422)) (fun _ hk => hk.2) (.int .u64 t423)) (fun _ hk => hk.2) (.int .i64 t424)) (fun _ hk => hk.2) (.slice Ao129 t425.length co129)) (fun _ hk => ⟨hk.1.1.1, ⟨hk.1.1.2.1, ⟨hk.1.1.2.2.1, ⟨hk.1.1.2.2.2, hk.1.2⟩⟩⟩⟩)⟩
                  have n1_ : Aside0 (Kd.V k42 42 ((((w123.setCell ⟨gb429, 0, none⟩ (.int .u64 t422)).setCell ⟨gb429, 1, none⟩ (.int .u64 t423)).setCell ⟨gb429, 2, none⟩ (.int .i64 t424)).setCell ⟨gb429, 3, none⟩ (.slice Ao129 t425.length co129)) w.heap.size (fun k_ => k_ ≠ gb380 ∧ k_ ≠ gb389 ∧ k_ ≠ gb404 ∧ k_ ≠ gb412 ∧ k_ ≠ gb429) (.slice (some ad403) x390004_2.length co53) x390004_2) := ⟨by refine pv ?_; exact Kd.V_mono (Kd.V_far (p := ⟨gb429, 3, none⟩) (Kd.V_far (p := ⟨gb429, 2, none⟩) (Kd.V_far (p := ⟨gb429, 1, none⟩) (Kd.V_far (p := ⟨gb429, 0, none⟩) (Kd.V_mono HO_390004.out (fun k_ hk => (⟨hk, hk.2⟩ : _ ∧ k_ ≠ gb429))) (fun _ hk => hk.2) (.int .u64 t422)) (fun _ hk => hk.2) (.int .u64 t423)) (fun _ hk => hk.2) (.int .i64 t424)) (fun _ hk => hk.2) (.slice Ao129 t425.length co129)) (fun _ hk => ⟨hk.1.1.1, ⟨hk.1.1.2.1, ⟨hk.1.1.2.2.1, ⟨hk.1.1.2.2.2, hk.1.2⟩⟩⟩⟩)⟩
                  have n2_ : Aside0 (Kd.V k87 87 ((((w123.setCell ⟨gb429, 0, none⟩ (.int .u64 t422)).setCell ⟨gb429, 1, none⟩ (.int .u64 t423)).setCell ⟨gb429, 2, none⟩ (.int .i64 t424)).setCell ⟨gb429, 3, none⟩ (.slice Ao129 t425.length co129)) w.heap.size (fun k_ => k_ ≠ gb380 ∧ k_ ≠ gb389 ∧ k_ ≠ gb404 ∧ k_ ≠ gb412 ∧ k_ ≠ gb429) (.slice A403_5 ((rd_T42 x390004_2 x83_3).f2.f2).length c403_5) ((rd_T42 x390004_2 x83_3).f2.f2)) := ⟨by refine pv ?_; exact Kd.V_mono (Kd.V_far (p := ⟨gb429, 3, none⟩) (Kd.V_far (p := ⟨gb429, 2, none⟩) (Kd.V_far (p := ⟨gb429, 1, none⟩) (Kd.V_far (p := ⟨gb429, 0, none⟩) (Kd.V_mono HO_405005.out (fun k_ hk => (⟨hk, hk.2⟩ : _ ∧ k_ ≠ gb429))) (fun _ hk => hk.2) (.int .u64 t422)) (fun _ hk => hk.2) (.int .u64 t423)) (fun _ hk => hk.2) (.int .i64 t424)) (fun _ hk => hk.2) (.slice Ao129 t425.length co129)) (fun _ hk => ⟨hk.1.1.1, ⟨hk.1.1.2.1, ⟨hk.1.1.2.2.1, ⟨hk.1.1.2.2.2, hk.1.2⟩⟩⟩⟩)⟩
                  have n3_ : Aside0 (Kd.V k87 87 ((((w123.setCell ⟨gb429, 0, none⟩ (.int .u64 t422)).setCell ⟨gb429, 1, none⟩ (.int .u64 t423)).setCell ⟨gb429, 2, none⟩ (.int .i64 t424)).setCell ⟨gb429, 3, none⟩ (.slice Ao129 t425.length co129)) w.heap.size (fun k_ => k_ ≠ gb380 ∧ k_ ≠ gb389 ∧ k_ ≠ gb404 ∧ k_ ≠ gb412 ∧ k_ ≠ gb429) u413003 x413003_4) := ⟨by refine pv ?_; exact Kd.V_mono (Kd.V_far (p := ⟨gb429, 3, none⟩) (Kd.V_far (p := ⟨gb429, 2, none⟩) (Kd.V_far (p := ⟨gb429, 1, none⟩) (Kd.V_far (p := ⟨gb429, 0, none⟩) (Kd.V_mono HO_413003.out (fun k_ hk => (⟨hk, hk.2⟩ : _ ∧ k_ ≠ gb429))) (fun _ hk => hk.2) (.int .u64 t422)) (fun _ hk => hk.2) (.int .u64 t423)) (fun _ hk => hk.2) (.int .i64 t424)) (fun _ hk => hk.2) (.slice Ao129 t425.length co129)) (fun _ hk => ⟨hk.1.1.1, ⟨hk.1.1.2.1, ⟨hk.1.1.2.2.1, ⟨hk.1.1.2.2.2, hk.1.2⟩⟩⟩⟩)⟩
                  have n4_ : Aside0 (Kd.V k87 87 ((((w123.setCell ⟨gb429, 0, none⟩ (.int .u64 t422)).setCell ⟨gb429, 1, none⟩ (.int .u64 t423)).setCell ⟨gb429, 2, none⟩ (.int .i64 t424)).setCell ⟨gb429, 3, none⟩ (.slice Ao129 t425.length co129)) w.heap.size (fun k_ => k_ ≠ gb380 ∧ k_ ≠ gb389 ∧ k_ ≠ gb404 ∧ k_ ≠ gb412 ∧ k_ ≠ gb429) (.slice Ao129 t425.length co129) t425) := ⟨by refine pv ?_; exact Kd.V_mono (Kd.V_far (p := ⟨gb429, 3, none⟩) (Kd.V_far (p := ⟨gb429, 2, none⟩) (Kd.V_far (p := ⟨gb429, 1, none⟩) (Kd.V_far (p := ⟨gb429, 0, none⟩) (Kd.V_mono HO427.out (fun k_ hk => (⟨hk, hk.2⟩ : _ ∧ k_ ≠ gb429))) (fun _ hk => hk.2) (.int .u64 t422)) (fun _ hk => hk.2) (.int .u64 t423)) (fun _ hk => hk.2) (.int .i64 t424)) (fun _ hk => hk.2) (.slice Ao129 t425.length co129)) (fun _ hk => ⟨hk.1.1.1, ⟨hk.1.1.2.1, ⟨hk.1.1.2.2.1, ⟨hk.1.1.2.2.2, hk.1.2⟩⟩⟩⟩)⟩
                  have n5_ : Aside0 (((((w123.setCell ⟨gb429, 0, none⟩ (.int .u64 t422)).setCell ⟨gb429, 1, none⟩ (.int .u64 t423)).setCell ⟨gb429, 2, none⟩ (.int .i64 t424)).setCell ⟨gb429, 3, none⟩ (.slice Ao129 t425.length co129)).heap[gb380]? = some (.cells #[.int .u64 a0_0, .int .u64 a0_1] 24 (0, 0))) := ⟨by refine pk ?_; refine blk_far ?_ NB380_429.out _; refine pk ?_; refine blk_far ?_ NB380_429.out _; refine pk ?_; refine blk_far ?_ NB380_429.out _; refine pk ?_; refine blk_far ?_ NB380_429.out _; refine pk ?_; exact BK380.out⟩
                  have n6_ : Aside0 (((((w123.setCell ⟨gb429, 0, none⟩ (.int .u64 t422)).setCell ⟨gb429, 1, none⟩ (.int .u64 t423)).setCell ⟨gb429, 2, none⟩ (.int .i64 t424)).setCell ⟨gb429, 3, none⟩ (.slice Ao129 t425.length co129)).heap[gb389]? = some (.cells #[.int .u64 x390000_2, .int .u64 x390001_2, .int .i64 x390002_2, .int .i64 x390003_2, .slice (some ad403) x390004_2.length co53] 28 (0, 0))) := ⟨by refine pk ?_; refine blk_far ?_ NB389_429.out _; refine pk ?_; refine blk_far ?_ NB389_429.out _; refine pk ?_; refine blk_far ?_ NB389_429.out _; refine pk ?_; refine blk_far ?_ NB389_429.out _; refine pk ?_; exact BK389.out⟩
                  have n7_ : Aside0 (((((w123.setCell ⟨gb429, 0, none⟩ (.int .u64 t422)).setCell ⟨gb429, 1, none⟩ (.int .u64 t423)).setCell ⟨gb429, 2, none⟩ (.int .i64 t424)).setCell ⟨gb429, 3, none⟩ (.slice Ao129 t425.length co129)).heap[gb404]? = some (.cells #[.string ((rd_T42 x390004_2 x83_3).f0), .int .u64 ((rd_T42 x390004_2 x83_3).f1), .int .u64 ((rd_T42 x390004_2 x83_3).f2.f0.f0), .int .u64 ((rd_T42 x390004_2 x83_3).f2.f0.f1), .int .i64 ((rd_T42 x390004_2 x83_3).f2.f1), .slice A403_5 ((rd_T42 x390004_2 x83_3).f2.f2).length c403_5] 42 (0, 0))) := ⟨by refine pk ?_; refine blk_far ?_ NB404_429.out _; refine pk ?_; refine blk_far ?_ NB404_429.out _; refine pk ?_; refine blk_far ?_ NB404_429.out _; refine pk ?_; refine blk_far ?_ NB404_429.out _; refine pk ?_; exact BK404.out⟩
                  have n8_ : Aside0 (((((w123.setCell ⟨gb429, 0, none⟩ (.int .u64 t422)).setCell ⟨gb429, 1, none⟩ (.int .u64 t423)).setCell ⟨gb429, 2, none⟩ (.int .i64 t424)).setCell ⟨gb429, 3, none⟩ (.slice Ao129 t425.length co129)).heap[gb412]? = some (.cells #[.int .u64 x413000_4, .int .u64 x413001_4, .int .i64 x413002_4, u413003] 40 (0, 0))) := ⟨by refine pk ?_; refine blk_far ?_ NB412_429.out _; refine pk ?_; refine blk_far ?_ NB412_429.out _; refine pk ?_; refine blk_far ?_ NB412_429.out _; refine pk ?_; refine blk_far ?_ NB412_429.out _; refine pk ?_; exact BK412.out⟩
                  have n9_ : Aside0 (((((w123.setCell ⟨gb429, 0, none⟩ (.int .u64 t422)).setCell ⟨gb429, 1, none⟩ (.int .u64 t423)).setCell ⟨gb429, 2, none⟩ (.int .i64 t424)).setCell ⟨gb429, 3, none⟩ (.slice Ao129 t425.length co129)).heap[gb429]? = some (.cells #[.int .u64 t422, .int .u64 t423, .int .i64 t424, .slice Ao129 t425.length co129] 40 (0, 0))) := ⟨by refine pk ?_; refine blk_put (cs := #[.int .u64 t422, .int .u64 t423, .int .i64 t424, .slice none 0 0]) ?_ 3 _ rfl; refine pk ?_; refine blk_put (cs := #[.int .u64 t422, .int .u64 t423, .int .i64 0, .slice none 0 0]) ?_ 2 _ rfl; refine pk ?_; refine blk_put (cs := #[.int .u64 t422, .int .u64 0, .int .i64 0, .slice none 0 0]) ?_ 1 _ rfl; refine pk ?_; refine blk_put (cs := #[.int .u64 0, .int .u64 0, .int .i64 0, .slice none 0 0]) ?_ 0 _ rfl; refine pk ?_; exact BK429.out⟩
                  have n10_ : Aside0 (Below w.heap.size w ((((w123.setCell ⟨gb429, 0, none⟩ (.int .u64 t422)).setCell ⟨gb429, 1, none⟩ (.int .u64 t423)).setCell ⟨gb429, 2, none⟩ (.int .i64 t424)).setCell ⟨gb429, 3, none⟩ (.slice Ao129 t425.length co129))) := ⟨pb HB⟩
                  (try clear HO_81)
                  (try clear HO_390004)
                  (try clear HO_405005)
                  (try clear HO_413003)
                  (try clear HO427)
                  (try clear BK380)
                  (try clear BK389)
                  (try clear BK404)
                  (try clear BK412)
                  (try clear BK429)
                  (try clear HB)
                  generalize ((((w123.setCell ⟨gb429, 0, none⟩ (.int .u64 t422)).setCell ⟨gb429, 1, none⟩ (.int .u64 t423)).setCell ⟨gb429, 2, none⟩ (.int .i64 t424)).setCell ⟨gb429, 3, none⟩ (.slice Ao129 t425.length co129)) = w130 at n0_ n1_ n2_ n3_ n4_ n5_ n6_ n7_ n8_ n9_ n10_ ⊢
                  have HO_81 := n0_
                  have HO_390004 := n1_
                  have HO_405005 := n2_
                  have HO_413003 := n3_
                  have HO427 := n4_
                  have BK380 := n5_
                  have BK389 := n6_
                  have BK404 := n7_
                  have BK412 := n8_
                  have BK429 := n9_
                  have HB := n10_
                  clear n0_ n1_ n2_ n3_ n4_ n5_ n6_ n7_ n8_ n9_ n10_
                  replace HO_81 := am (Kd.V_drew HO_81.out)
                  replace HO_390004 := am (Kd.V_drew HO_390004.out)
                  replace HO_405005 := am (Kd.V_drew HO_405005.out)
                  replace HO_413003 := am (Kd.V_drew HO_413003.out)
                  replace HO427 := am (Kd.V_drew HO427.out)
                  replace BK380 := am (blk_drew BK380.out)
                  replace BK389 := am (blk_drew BK389.out)
                  replace BK404 := am (blk_drew BK404.out)
                  replace BK412 := am (blk_drew BK412.out)
                  replace BK429 := am (blk_drew BK429.out)
                  replace HB := am (below_drew1 HB.out)
                  obtain ⟨Ao132, co132, eo132⟩ := Kd.V_slice HO_413003.out
                  (first | subst eo132 | (injection eo132 with f1_ f2_ f3_; have f4_ := f1_.symm; have f5_ := f3_.symm; clear f1_ f2_ f3_; subst f4_; subst f5_))
                  refine start_ (n := 23) (S := fun w' => w'.cell? ⟨gb412, 0, none⟩ = some (.int .u64 x413000_4) ∧ w'.cell? ⟨gb412, 1, none⟩ = some (.int .u64 x413001_4) ∧ w'.cell? ⟨gb412, 2, none⟩ = some (.int .i64 x413002_4) ∧ w'.cell? ⟨gb412, 3, none⟩ = some (.slice Ao132 x413003_4.length co132) ∧ w'.cell? ⟨gb404, 0, none⟩ = some (.string ((rd_T42 x390004_2 x83_3).f0)) ∧ w'.cell? ⟨gb404, 1, none⟩ = some (.int .u64 ((rd_T42 x390004_2 x83_3).f1)) ∧ w'.cell? ⟨gb404, 2, none⟩ = some (.int .u64 ((rd_T42 x390004_2 x83_3).f2.f0.f0)) ∧ w'.cell? ⟨gb404, 3, none⟩ = some (.int .u64 ((rd_T42 x390004_2 x83_3).f2.f0.f1)) ∧ w'.cell? ⟨gb404, 4, none⟩ = some (.int .i64 ((rd_T42 x390004_2 x83_3).f2.f1)) ∧ w'.cell? ⟨gb404, 5, none⟩ = some (.slice A403_5 ((rd_T42 x390004_2 x83_3).f2.f2).length c403_5) ∧ w'.cell? ⟨gb429, 0, none⟩ = some (.int .u64 t422) ∧ w'.cell? ⟨gb429, 1, none⟩ = some (.int .u64 t423) ∧ w'.cell? ⟨gb429, 2, none⟩ = some (.int .i64 t424) ∧ w'.cell? ⟨gb429, 3, none⟩ = some (.slice Ao129 t425.length co129)) (ds := []) #[false, false, false, false, false, false, false, false, false, false, false, false, false, false, false, false, false, false, false, false, false, false, false] (by kernel_rfl) rfl rfl ⟨ce BK412 0, ce BK412 1, ce BK412 2, ce BK412 3, ce BK404 0, ce BK404 1, ce BK404 2, ce BK404 3, ce BK404 4, ce BK404 5, ce BK429 0, ce BK429 1, ce BK429 2, ce BK429 3⟩ (fun hHeld => ?_); refine with_tabW samphirelaw21_StrataApart.tab22 samphirelaw21_StrataApart.bits22 (fun HT_ HW_ => ?_)
                  generalize w130.drew = w131 at HO_81 HO_390004 HO_405005 HO_413003 HO427 BK380 BK389 BK404 BK412 BK429 HB hHeld ⊢
                  refine pu 0 ?_
                  refine pu 1 ?_
                  refine pu 2 ?_
                  refine pu 3 ?_
                  refine pu 6 ?_
                  refine pu 7 ?_
                  refine ta 4 hHeld ?_
                  refine ta 8 hHeld ?_
                  refine on1 5 (fun K hK => ?_)
                  refine gs Try.func16 #[.slice Ao132 x413003_4.length co132] ?_
                  with_reducible refine (samphirelaw14_Refs.calls k4 _ _ x413003_4 t430 _ ?side1 ?side2 A107.out).mono ?_
                  (case side1 => repeat (first | exact (Kd.V_reads' HO_413003.out).2.2 | (with_reducible refine Kd.C_alloc ?_ _) | (with_reducible refine Kd.C_drewN ?_ _) | (with_reducible refine Kd.C_drew ?_)))
                  (case side2 => exact (Kd.V_reads' HO_413003.out).2.1)
                  rintro e w133 ⟨v431, rfl, ho0, hb⟩
                  refine ⟨_, rfl, ?_⟩
                  replace HO_81 := am (Kd.V_elder' (pv HO_81.out) (Kd.R_base ho0) hb)
                  replace HO_390004 := am (Kd.V_elder' (pv HO_390004.out) (Kd.R_base ho0) hb)
                  replace HO_405005 := am (Kd.V_elder' (pv HO_405005.out) (Kd.R_base ho0) hb)
                  replace HO_413003 := am (Kd.V_elder' (pv HO_413003.out) (Kd.R_base ho0) hb)
                  replace HO427 := am (Kd.V_elder' (pv HO427.out) (Kd.R_base ho0) hb)
                  have HO432 := am (Kd.R_lower ho0 (below_size (pb HB)))
                  replace BK380 := am (blk_below (pk BK380.out) hb)
                  replace BK389 := am (blk_below (pk BK389.out) hb)
                  replace BK404 := am (blk_below (pk BK404.out) hb)
                  replace BK412 := am (blk_below (pk BK412.out) hb)
                  replace BK429 := am (blk_below (pk BK429.out) hb)
                  replace HB := am (below_step (pb HB) hb)
                  (try clear hb)
                  (try clear hb2)
                  (try clear hk)
                  (try clear hi)
                  (try clear ho0)
                  refine hK.out _ _ ⟨ce BK412 0, ce BK412 1, ce BK412 2, ce BK412 3, ce BK404 0, ce BK404 1, ce BK404 2, ce BK404 3, ce BK404 4, ce BK404 5, ce BK429 0, ce BK429 1, ce BK429 2, ce BK429 3⟩ (fun hHeld => ?_)
                  clear hK K
                  refine nm ?_
                  refine on1 9 (fun K hK => ?_)
                  refine gs Try.func16 #[.slice A403_5 ((rd_T42 x390004_2 x83_3).f2.f2).length c403_5] ?_
                  with_reducible refine (samphirelaw14_Refs.calls k4 _ _ ((rd_T42 x390004_2 x83_3).f2.f2) t433 _ ?side1 ?side2 A108.out).mono ?_
                  (case side1 => repeat (first | exact (Kd.V_reads' HO_405005.out).2.2 | (with_reducible refine Kd.C_alloc ?_ _) | (with_reducible refine Kd.C_drewN ?_ _) | (with_reducible refine Kd.C_drew ?_)))
                  (case side2 => exact (Kd.V_reads' HO_405005.out).2.1)
                  rintro e w134 ⟨v434, rfl, ho0, hb⟩
                  refine ⟨_, rfl, ?_⟩
                  replace HO_81 := am (Kd.V_elder' (pv HO_81.out) (Kd.R_base ho0) hb)
                  replace HO_390004 := am (Kd.V_elder' (pv HO_390004.out) (Kd.R_base ho0) hb)
                  replace HO_405005 := am (Kd.V_elder' (pv HO_405005.out) (Kd.R_base ho0) hb)
                  replace HO_413003 := am (Kd.V_elder' (pv HO_413003.out) (Kd.R_base ho0) hb)
                  replace HO427 := am (Kd.V_elder' (pv HO427.out) (Kd.R_base ho0) hb)
                  have HO435 := am (Kd.R_lower (Kd.R_new' ho0 (Kd.R_lt (pr HO432.out))) (below_size (pb HB)))
                  replace HO432 := am (Kd.R_elder' (pr HO432.out) (Kd.R_base ho0) hb)
                  replace BK380 := am (blk_below (pk BK380.out) hb)
                  replace BK389 := am (blk_below (pk BK389.out) hb)
                  replace BK404 := am (blk_below (pk BK404.out) hb)
                  replace BK412 := am (blk_below (pk BK412.out) hb)
                  replace BK429 := am (blk_below (pk BK429.out) hb)
                  replace HB := am (below_step (pb HB) hb)
                  (try clear hb)
                  (try clear hb2)
                  (try clear hk)
                  (try clear hi)
                  (try clear ho0)
                  obtain ⟨Ao135, co135, eo135⟩ := Kd.R_slice HO432.out
                  (first | subst eo135 | (injection eo135 with f1_ f2_ f3_; have f4_ := f1_.symm; have f5_ := f3_.symm; clear f1_ f2_ f3_; subst f4_; subst f5_))
                  obtain ⟨Ao136, co136, eo136⟩ := Kd.R_slice HO435.out
                  (first | subst eo136 | (injection eo136 with f1_ f2_ f3_; have f4_ := f1_.symm; have f5_ := f3_.symm; clear f1_ f2_ f3_; subst f4_; subst f5_))
                  refine hK.out _ _ ⟨ce BK412 0, ce BK412 1, ce BK412 2, ce BK412 3, ce BK404 0, ce BK404 1, ce BK404 2, ce BK404 3, ce BK404 4, ce BK404 5, ce BK429 0, ce BK429 1, ce BK429 2, ce BK429 3⟩ (fun hHeld => ?_)
                  clear hK K
                  refine nm ?_
                  refine on1 10 (fun K hK => ?_)
                  refine gs Try.func15 #[.slice Ao135 t430.length co135, .slice Ao136 t433.length co136] ?_
                  with_reducible refine (samphireref14_Same.calls k4 _ _ t430 _ _ t433 true _ ?side1 ?side2 ?side3 ?side4 A109.out).mono ?_
                  (case side1 => repeat (first | exact (Kd.R_reads' HO432.out).2.2 | (with_reducible refine Kd.C_alloc ?_ _) | (with_reducible refine Kd.C_drewN ?_ _) | (with_reducible refine Kd.C_drew ?_)))
                  (case side2 => exact (Kd.R_reads' HO432.out).2.1)
                  (case side3 => repeat (first | exact (Kd.R_reads' HO435.out).2.2 | (with_reducible refine Kd.C_alloc ?_ _) | (with_reducible refine Kd.C_drewN ?_ _) | (with_reducible refine Kd.C_drew ?_)))
                  (case side4 => exact (Kd.R_reads' HO435.out).2.1)
                  rintro e w' ⟨rfl, ⟨nd, rfl⟩⟩
                  refine ⟨_, rfl, ?_⟩
                  refine hK.out _ _ ⟨ce BK412 0, ce BK412 1, ce BK412 2, ce BK412 3, ce BK404 0, ce BK404 1, ce BK404 2, ce BK404 3, ce BK404 4, ce BK404 5, ce BK429 0, ce BK429 1, ce BK429 2, ce BK429 3⟩ (fun hHeld => ?_)
                  clear hK K
                  refine nm ?_
                  refine pu 11 ?_
                  refine pu 12 ?_
                  refine pu 13 ?_
                  refine pu 14 ?_
                  refine pu 17 ?_
                  refine ta 15 hHeld ?_
                  refine ta 18 hHeld ?_
                  refine on1 16 (fun K hK => ?_)
                  refine gs Try.func16 #[.slice Ao129 t425.length co129] ?_
                  with_reducible refine (samphirelaw14_Refs.calls k4 _ _ t425 t437 _ ?side1 ?side2 A111.out).mono ?_
                  (case side1 => repeat (first | exact (Kd.V_reads' HO427.out).2.2 | (with_reducible refine Kd.C_alloc ?_ _) | (with_reducible refine Kd.C_drewN ?_ _) | (with_reducible refine Kd.C_drew ?_)))
                  (case side2 => exact (Kd.V_reads' HO427.out).2.1)
                  rintro e w137 ⟨v438, rfl, ho0, hb⟩
                  refine ⟨_, rfl, ?_⟩
                  replace HO_81 := am (Kd.V_elder' (pv HO_81.out) (Kd.R_base ho0) hb)
                  replace HO_390004 := am (Kd.V_elder' (pv HO_390004.out) (Kd.R_base ho0) hb)
                  replace HO_405005 := am (Kd.V_elder' (pv HO_405005.out) (Kd.R_base ho0) hb)
                  replace HO_413003 := am (Kd.V_elder' (pv HO_413003.out) (Kd.R_base ho0) hb)
                  replace HO427 := am (Kd.V_elder' (pv HO427.out) (Kd.R_base ho0) hb)
                  have HO439 := am (Kd.R_lower (Kd.R_new' (Kd.R_new' ho0 (Kd.R_lt (pr HO432.out))) (Kd.R_lt (pr HO435.out))) (below_size (pb HB)))
                  replace HO432 := am (Kd.R_elder' (pr HO432.out) (Kd.R_base ho0) hb)
                  replace HO435 := am (Kd.R_elder' (pr HO435.out) (Kd.R_base ho0) hb)
                  replace BK380 := am (blk_below (pk BK380.out) hb)
                  replace BK389 := am (blk_below (pk BK389.out) hb)
                  replace BK404 := am (blk_below (pk BK404.out) hb)
                  replace BK412 := am (blk_below (pk BK412.out) hb)
                  replace BK429 := am (blk_below (pk BK429.out) hb)
                  replace HB := am (below_step (pb HB) hb)
                  (try clear hb)
                  (try clear hb2)
                  (try clear hk)
                  (try clear hi)
                  (try clear ho0)
                  refine hK.out _ _ ⟨ce BK412 0, ce BK412 1, ce BK412 2, ce BK412 3, ce BK404 0, ce BK404 1, ce BK404 2, ce BK404 3, ce BK404 4, ce BK404 5, ce BK429 0, ce BK429 1, ce BK429 2, ce BK429 3⟩ (fun hHeld => ?_)
                  clear hK K
                  refine nm ?_
                  refine on1 19 (fun K hK => ?_)
                  refine gs Try.func16 #[.slice Ao132 x413003_4.length co132] ?_
                  with_reducible refine (samphirelaw14_Refs.calls k4 _ _ x413003_4 t440 _ ?side1 ?side2 A112.out).mono ?_
                  (case side1 => repeat (first | exact (Kd.V_reads' HO_413003.out).2.2 | (with_reducible refine Kd.C_alloc ?_ _) | (with_reducible refine Kd.C_drewN ?_ _) | (with_reducible refine Kd.C_drew ?_)))
                  (case side2 => exact (Kd.V_reads' HO_413003.out).2.1)
                  rintro e w138 ⟨v441, rfl, ho0, hb⟩
                  refine ⟨_, rfl, ?_⟩
                  replace HO_81 := am (Kd.V_elder' (pv HO_81.out) (Kd.R_base ho0) hb)
                  replace HO_390004 := am (Kd.V_elder' (pv HO_390004.out) (Kd.R_base ho0) hb)
                  replace HO_405005 := am (Kd.V_elder' (pv HO_405005.out) (Kd.R_base ho0) hb)
                  replace HO_413003 := am (Kd.V_elder' (pv HO_413003.out) (Kd.R_base ho0) hb)
                  replace HO427 := am (Kd.V_elder' (pv HO427.out) (Kd.R_base ho0) hb)
                  have HO442 := am (Kd.R_lower (Kd.R_new' (Kd.R_new' (Kd.R_new' ho0 (Kd.R_lt (pr HO432.out))) (Kd.R_lt (pr HO435.out))) (Kd.R_lt (pr HO439.out))) (below_size (pb HB)))
                  replace HO432 := am (Kd.R_elder' (pr HO432.out) (Kd.R_base ho0) hb)
                  replace HO435 := am (Kd.R_elder' (pr HO435.out) (Kd.R_base ho0) hb)
                  replace HO439 := am (Kd.R_elder' (pr HO439.out) (Kd.R_base ho0) hb)
                  replace BK380 := am (blk_below (pk BK380.out) hb)
                  replace BK389 := am (blk_below (pk BK389.out) hb)
                  replace BK404 := am (blk_below (pk BK404.out) hb)
                  replace BK412 := am (blk_below (pk BK412.out) hb)
                  replace BK429 := am (blk_below (pk BK429.out) hb)
                  replace HB := am (below_step (pb HB) hb)
                  (try clear hb)
                  (try clear hb2)
                  (try clear hk)
                  (try clear hi)
                  (try clear ho0)
                  obtain ⟨Ao139, co139, eo139⟩ := Kd.R_slice HO439.out
                  (first | subst eo139 | (injection eo139 with f1_ f2_ f3_; have f4_ := f1_.symm; have f5_ := f3_.symm; clear f1_ f2_ f3_; subst f4_; subst f5_))
                  obtain ⟨Ao140, co140, eo140⟩ := Kd.R_slice HO442.out
                  (first | subst eo140 | (injection eo140 with f1_ f2_ f3_; have f4_ := f1_.symm; have f5_ := f3_.symm; clear f1_ f2_ f3_; subst f4_; subst f5_))
                  refine hK.out _ _ ⟨ce BK412 0, ce BK412 1, ce BK412 2, ce BK412 3, ce BK404 0, ce BK404 1, ce BK404 2, ce BK404 3, ce BK404 4, ce BK404 5, ce BK429 0, ce BK429 1, ce BK429 2, ce BK429 3⟩ (fun hHeld => ?_)
                  clear hK K
                  refine nm ?_
                  refine on1 20 (fun K hK => ?_)
                  refine gs Try.func15 #[.slice Ao139 t437.length co139, .slice Ao140 t440.length co140] ?_
                  with_reducible refine (samphireref14_Same.calls k4 _ _ t437 _ _ t440 true _ ?side1 ?side2 ?side3 ?side4 A113.out).mono ?_
                  (case side1 => repeat (first | exact (Kd.R_reads' HO439.out).2.2 | (with_reducible refine Kd.C_alloc ?_ _) | (with_reducible refine Kd.C_drewN ?_ _) | (with_reducible refine Kd.C_drew ?_)))
                  (case side2 => exact (Kd.R_reads' HO439.out).2.1)
                  (case side3 => repeat (first | exact (Kd.R_reads' HO442.out).2.2 | (with_reducible refine Kd.C_alloc ?_ _) | (with_reducible refine Kd.C_drewN ?_ _) | (with_reducible refine Kd.C_drew ?_)))
                  (case side4 => exact (Kd.R_reads' HO442.out).2.1)
                  rintro e w' ⟨rfl, ⟨nd, rfl⟩⟩
                  refine ⟨_, rfl, ?_⟩
                  refine hK.out _ _ ⟨ce BK412 0, ce BK412 1, ce BK412 2, ce BK412 3, ce BK404 0, ce BK404 1, ce BK404 2, ce BK404 3, ce BK404 4, ce BK404 5, ce BK429 0, ce BK429 1, ce BK429 2, ce BK429 3⟩ (fun hHeld => ?_)
                  clear hK K
                  refine nm ?_
                  refine pu 21 ?_
                  refine pu 22 ?_
                  refine done_ (done_of HT_.out (by kernel_rfl)) ?_
                  try go_wp2
                  go_roundg k4
                  case measure => have := HJ5.out; have := HK2.out; have := HK3.out; have := HK4.out; omega
                  case rel => exact ⟨(wrap64 (x83_3 + 1)), (by first | rfl | (simp; done) | (simp [*]; done)), H', ⟨by have := HJ5.out; have := HK2.out; have := HK3.out; have := HK4.out; omega⟩, ⟨by refine pv ?_; exact Kd.V_mono HO_81.out (fun _ hk => ⟨hk.1.1.1.1.1, hk.1.1.1.1.2.1⟩)⟩, ⟨by refine pv ?_; exact Kd.V_mono HO_390004.out (fun _ hk => ⟨hk.1.1.1.1.1, hk.1.1.1.1.2.1⟩)⟩, ⟨pk BK380.out⟩, ⟨pk BK389.out⟩, ⟨pb HB⟩⟩
                 ·replace c114 := Bool.eq_false_iff.mpr c114
                  subst c114
                  have H1 : (some false) = some r := by rw [if_neg (show ¬ (false = true) by decide)] at H; exact H
                  exact Bool.noConfusion ((Option.some.inj H1).trans hrT.out)
                ·replace c110 := Bool.eq_false_iff.mpr c110
                 subst c110
                 have H1 : (some false) = some r := by rw [if_neg (show ¬ (false = true) by decide)] at H; exact H
                 exact Bool.noConfusion ((Option.some.inj H1).trans hrT.out)
               ·rw [if_neg c106] at H
                exact Bool.noConfusion ((Option.some.inj H).trans hrT.out)
           ·rw [if_neg c56] at H
            exact absurd H (by simp)
          ·rw [if_neg c55] at H
           exact absurd H (by simp)
         ·rw [if_neg c54] at H
          have c54b0 : decide (x83_3 < (x390004_2.length : Int)) = false := decide_eq_false c54
          clear c54
          replace H := Option.bind_eq_some_iff.mp H
          obtain ⟨t402, A2060, H⟩ := H
          try dsimp only at H
          have A206 := am A2060
          clear A2060
          obtain rfl := Option.some.inj H
          go_wp2_with (first | ((with_reducible refine gate_callee (f := 9) rfl ?_); refine gl (some 148) Try.func9 #[] ?_; (with_reducible refine (samphirelaw21_awake.calls k3  t402 hrT _ A206.out).mono ?_); rintro e w207 ⟨rfl, hb⟩; refine ⟨_, rfl, ?_⟩; replace HO_81 := am (Kd.V_below (pv HO_81.out) hb); replace HO_390004 := am (Kd.V_below (pv HO_390004.out) hb); replace BK380 := am (blk_below (pk BK380.out) hb); replace BK389 := am (blk_below (pk BK389.out) hb); replace HB := am (below_step (pb HB) hb); (try clear hb); (try clear hb2); (try clear hk); (try clear hi)))
          go_ret
          exact ⟨by first | rfl | (simp [errW_none, errW_some] <;> rfl) | (simp [*, errW_none, errW_some] <;> rfl), pb HB⟩
end Go.Proofs.Ytpbiobbddgipkaa.H
