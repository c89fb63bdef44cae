import Derived.Test.YtojpmjkphgjmgaaHx0
import Derived.Test.YtojpmjkphgjmgaaHx7
import Derived.Test.YtojpmjkphgjmgaaHx9
import Derived.Test.YtojpmjkphgjmgaaHx10
import Derived.Test.YtojpmjkphgjmgaaHx11
namespace Go.Proofs.Ytojpmjkphgjmgaa.H
open Go.RowKit Go.Proofs.YtojpmjkphgjmgaaW.PrintWords Go.Proofs.YtojpmjkphgjmgaaW.PrintLast Go.Proofs.YtojpmjkphgjmgaaW.PrintMore Go.Proofs.YtojpmjkphgjmgaaW.Sq
attribute [local go_sem] max2_int min2_int max_two min_two max_three min_three max_four min_four
set_option linter.unusedVariables false
set_option linter.unusedSimpArgs false

mutual
def l12_IndexKeeps.l0 : Nat → List (S56) → List ByteArray → List Int → Int → Int → Int → List (S60) → Option (Bool)
 | 0, _, _, _, _, _, _, _ => none
 | k + 1, x1, x6, x7, x8, x475000, x475001, x475002 => if x8 < (x1.length : Int) then (l12_IndexKeeps.j1 k x1 x6 x7 x8 (decide (x8 < 100)) x475000 x475001 x475002) else (l12_IndexKeeps.j1 k x1 x6 x7 x8 false x475000 x475001 x475002)
def l12_IndexKeeps.j1 : Nat → List (S56) → List ByteArray → List Int → Int → Bool → Int → Int → List (S60) → Option (Bool)
 | 0, _, _, _, _, _, _, _, _ => none
 | k + 1, x1, x6, x7, x8, x30, x475000, x475001, x475002 => if x30 = true then (if 0 ≤ x8 then (if x8 < (x1.length : Int) then (if (((rd_T56 x1 x8).f1).size : Int) > 64 then (l12_IndexKeeps.j2 k x1 x6 x7 x8 true x475000 x475001 x475002 ((rd_T56 x1 x8).f0) ((rd_T56 x1 x8).f1) ((rd_T56 x1 x8).f2)) else (if ((rd_T56 x1 x8).f2) < 0 then (l12_IndexKeeps.j2 k x1 x6 x7 x8 true x475000 x475001 x475002 ((rd_T56 x1 x8).f0) ((rd_T56 x1 x8).f1) ((rd_T56 x1 x8).f2)) else (l12_IndexKeeps.j2 k x1 x6 x7 x8 (decide (((rd_T56 x1 x8).f2) > 2147483647)) x475000 x475001 x475002 ((rd_T56 x1 x8).f0) ((rd_T56 x1 x8).f1) ((rd_T56 x1 x8).f2)))) else (none)) else (none)) else (l12_IndexKeeps.l2 k x7 x6 (x6.length : Int) 0 x475000 x475001 x475002)
def l12_IndexKeeps.j2 : Nat → List (S56) → List ByteArray → List Int → Int → Bool → Int → Int → List (S60) → Bool → ByteArray → Int → Option (Bool)
 | 0, _, _, _, _, _, _, _, _, _, _, _ => none
 | k + 1, x1, x6, x7, x8, x50, x475000, x475001, x475002, x477000, x477001, x477002 => if x50 = true then ((l12_awake.f k).bind fun t477 => (some t477)) else (l12_IndexKeeps.l1 k x1 x6 x7 x8 (-1) x6 (x6.length : Int) 0 x475000 x475001 x475002 x477000 x477001 x477002)
def l12_IndexKeeps.l1 : Nat → List (S56) → List ByteArray → List Int → Int → Int → List ByteArray → Int → Int → Int → Int → List (S60) → Bool → ByteArray → Int → Option (Bool)
 | 0, _, _, _, _, _, _, _, _, _, _, _, _, _, _ => none
 | k + 1, x1, x6, x7, x8, x10, x52, x53, x54, x475000, x475001, x475002, x477000, x477001, x477002 => if x54 < x53 then (if 0 ≤ x54 then (if x54 < (x52.length : Int) then (if (rdOf ByteArray.empty x52 x54).toList = x477001.toList then (l12_IndexKeeps.l1 k x1 x6 x7 x8 x54 x52 x53 (wrap64 (x54 + 1)) x475000 x475001 x475002 x477000 x477001 x477002) else (l12_IndexKeeps.l1 k x1 x6 x7 x8 x10 x52 x53 (wrap64 (x54 + 1)) x475000 x475001 x475002 x477000 x477001 x477002)) else (none)) else (none)) else (if x477000 = true then ((index_Delete.f k x475000 x475001 x475002 x477001).bind fun bt479 => (if ((bt479.2.2.2 == 0) != (decide (x10 ≥ 0))) = true then (some false) else (if x10 ≥ 0 then (if 0 ≤ (wrap64 ((x6.length : Int) - 1)) then (if (wrap64 ((x6.length : Int) - 1)) < (x6.length : Int) then (if 0 ≤ (wrap64 ((x7.length : Int) - 1)) then (if (wrap64 ((x7.length : Int) - 1)) < (x7.length : Int) then (if 0 ≤ x10 then (if x10 < (x6.length : Int) then (if x10 < (x7.length : Int) then (if (wrap64 ((x6.length : Int) - 1)) ≤ (x6.length : Int) then (if (wrap64 ((x7.length : Int) - 1)) ≤ (x7.length : Int) then (l12_IndexKeeps.j4 k x1 ((x6.set (x10 : Int).toNat (rdOf ByteArray.empty x6 (wrap64 ((x6.length : Int) - 1)))).take ((wrap64 ((x6.length : Int) - 1)) : Int).toNat) ((x7.set (x10 : Int).toNat (rd x7 (wrap64 ((x7.length : Int) - 1)))).take ((wrap64 ((x7.length : Int) - 1)) : Int).toNat) x8 bt479.1 bt479.2.1 bt479.2.2.1) else (none)) else (none)) else (none)) else (none)) else (none)) else (none)) else (none)) else (none)) else (none)) else (l12_IndexKeeps.j4 k x1 x6 x7 x8 bt479.1 bt479.2.1 bt479.2.2.1)))) else ((index_Put.f k x475000 x475001 x475002 x477001 x477002).bind fun bt496 => (if bt496.2.2.2 = 0 then (if x10 ≥ 0 then (if 0 ≤ x10 then (if x10 < (x7.length : Int) then (l12_IndexKeeps.j4 k x1 x6 (x7.set (x10 : Int).toNat x477002) x8 bt496.1 bt496.2.1 bt496.2.2.1) else (none)) else (none)) else ((some (([x477001] : List ByteArray) : List ByteArray)).bind fun y504 => (if x6.length + y504.length < 8796093022208 then ((some (([x477002] : List Int) : List Int)).bind fun y510 => (if x7.length + y510.length < 17592186044416 then (l12_IndexKeeps.j4 k x1 (x6 ++ y504) (x7 ++ y510) x8 bt496.1 bt496.2.1 bt496.2.2.1) else (none))) else (none)))) else (some false))))
def l12_IndexKeeps.j4 : Nat → List (S56) → List ByteArray → List Int → Int → Int → Int → List (S60) → Option (Bool)
 | 0, _, _, _, _, _, _, _ => none
 | k + 1, x1, x6, x7, x8, x475000, x475001, x475002 => (index_Right.f k x475000 x475001 x475002).bind fun t516 => (if t516 = true then ((index_Many.f k x475000 x475001 x475002).bind fun t517 => (if t517 = (x6.length : Int) then (l12_IndexKeeps.l0 k x1 x6 x7 (wrap64 (x8 + 1)) x475000 x475001 x475002) else (some false))) else (some false))
def l12_IndexKeeps.l2 : Nat → List Int → List ByteArray → Int → Int → Int → Int → List (S60) → Option (Bool)
 | 0, _, _, _, _, _, _, _ => none
 | k + 1, x7, x149, x150, x151, x475000, x475001, x475002 => if x151 < x150 then (if 0 ≤ x151 then (if x151 < (x149.length : Int) then ((index_Get.f k x475000 x475001 x475002 (rdOf ByteArray.empty x149 x151)).bind fun bt519 => (if bt519.2 = true then (if x151 < (x7.length : Int) then (if bt519.1 = (rd x7 x151) then (l12_IndexKeeps.l2 k x7 x149 x150 (wrap64 (x151 + 1)) x475000 x475001 x475002) else (some false)) else (none)) else (some false))) else (none)) else (none)) else ((l12_awake.f k).bind fun t522 => (some t522))
end
def l12_IndexKeeps.f (k : Nat) (a0_0 : Int) (a0_1 : Int) (l1 : List (S56)) : Option (Bool) := (index_New.f a0_0 a0_1).bind fun bt469 => (l12_IndexKeeps.l0 k l1 ([] : List ByteArray) ([] : List Int) 0 bt469.1 bt469.2.1 bt469.2.2)
theorem l12_IndexKeeps.mono_l : ∀ k, (∀ y0 y1 y2 y3 y4 y5 y6, LeO (l12_IndexKeeps.l0 k y0 y1 y2 y3 y4 y5 y6) (l12_IndexKeeps.l0 (k + 1) y0 y1 y2 y3 y4 y5 y6)) ∧ (∀ y0 y1 y2 y3 y4 y5 y6 y7, LeO (l12_IndexKeeps.j1 k y0 y1 y2 y3 y4 y5 y6 y7) (l12_IndexKeeps.j1 (k + 1) y0 y1 y2 y3 y4 y5 y6 y7)) ∧ (∀ y0 y1 y2 y3 y4 y5 y6 y7 y8 y9 y10, LeO (l12_IndexKeeps.j2 k y0 y1 y2 y3 y4 y5 y6 y7 y8 y9 y10) (l12_IndexKeeps.j2 (k + 1) y0 y1 y2 y3 y4 y5 y6 y7 y8 y9 y10)) ∧ (∀ y0 y1 y2 y3 y4 y5 y6 y7 y8 y9 y10 y11 y12 y13, LeO (l12_IndexKeeps.l1 k y0 y1 y2 y3 y4 y5 y6 y7 y8 y9 y10 y11 y12 y13) (l12_IndexKeeps.l1 (k + 1) y0 y1 y2 y3 y4 y5 y6 y7 y8 y9 y10 y11 y12 y13)) ∧ (∀ y0 y1 y2 y3 y4 y5 y6, LeO (l12_IndexKeeps.j4 k y0 y1 y2 y3 y4 y5 y6) (l12_IndexKeeps.j4 (k + 1) y0 y1 y2 y3 y4 y5 y6)) ∧ (∀ y0 y1 y2 y3 y4 y5 y6, LeO (l12_IndexKeeps.l2 k y0 y1 y2 y3 y4 y5 y6) (l12_IndexKeeps.l2 (k + 1) y0 y1 y2 y3 y4 y5 y6))
 | 0 => ⟨fun _ _ _ _ _ _ _ r h => by simp [l12_IndexKeeps.l0] at h, fun _ _ _ _ _ _ _ _ r h => by simp [l12_IndexKeeps.j1] at h, fun _ _ _ _ _ _ _ _ _ _ _ r h => by simp [l12_IndexKeeps.j2] at h, fun _ _ _ _ _ _ _ _ _ _ _ _ _ _ r h => by simp [l12_IndexKeeps.l1] at h, fun _ _ _ _ _ _ _ r h => by simp [l12_IndexKeeps.j4] at h, fun _ _ _ _ _ _ _ r h => by simp [l12_IndexKeeps.l2] at h⟩
 | k + 1 => by
  obtain ⟨ih0, ih1, ih2, ih3, ih4, ih5⟩ := l12_IndexKeeps.mono_l k
  refine ⟨?_, ?_, ?_, ?_, ?_, ?_⟩
  ·intro y0 y1 y2 y3 y4 y5 y6
   unfold l12_IndexKeeps.l0
   repeat' first
   | (with_reducible exact ih0 _ _ _ _ _ _ _)
   | (with_reducible exact ih1 _ _ _ _ _ _ _ _)
   | (with_reducible exact ih2 _ _ _ _ _ _ _ _ _ _ _)
   | (with_reducible exact ih3 _ _ _ _ _ _ _ _ _ _ _ _ _ _)
   | (with_reducible exact ih4 _ _ _ _ _ _ _)
   | (with_reducible exact ih5 _ _ _ _ _ _ _)
   | (with_reducible exact index_Delete.mono _ _ _ _ _)
   | (with_reducible exact index_Get.mono _ _ _ _ _)
   | (with_reducible exact index_Many.mono _ _ _ _)
   | (with_reducible exact index_Put.mono _ _ _ _ _ _)
   | (with_reducible exact index_Right.mono _ _ _ _)
   | (with_reducible exact l12_awake.mono _)
   | (with_reducible exact LeO.refl _)
   | (with_reducible exact LeO.none _)
   | (with_reducible refine LeO.ite ?_ ?_)
   | (with_reducible refine LeO.bind ?_ (fun _ => ?_))
  ·intro y0 y1 y2 y3 y4 y5 y6 y7
   unfold l12_IndexKeeps.j1
   repeat' first
   | (with_reducible exact ih0 _ _ _ _ _ _ _)
   | (with_reducible exact ih1 _ _ _ _ _ _ _ _)
   | (with_reducible exact ih2 _ _ _ _ _ _ _ _ _ _ _)
   | (with_reducible exact ih3 _ _ _ _ _ _ _ _ _ _ _ _ _ _)
   | (with_reducible exact ih4 _ _ _ _ _ _ _)
   | (with_reducible exact ih5 _ _ _ _ _ _ _)
   | (with_reducible exact index_Delete.mono _ _ _ _ _)
   | (with_reducible exact index_Get.mono _ _ _ _ _)
   | (with_reducible exact index_Many.mono _ _ _ _)
   | (with_reducible exact index_Put.mono _ _ _ _ _ _)
   | (with_reducible exact index_Right.mono _ _ _ _)
   | (with_reducible exact l12_awake.mono _)
   | (with_reducible exact LeO.refl _)
   | (with_reducible exact LeO.none _)
   | (with_reducible refine LeO.ite ?_ ?_)
   | (with_reducible refine LeO.bind ?_ (fun _ => ?_))
  ·intro y0 y1 y2 y3 y4 y5 y6 y7 y8 y9 y10
   unfold l12_IndexKeeps.j2
   repeat' first
   | (with_reducible exact ih0 _ _ _ _ _ _ _)
   | (with_reducible exact ih1 _ _ _ _ _ _ _ _)
   | (with_reducible exact ih2 _ _ _ _ _ _ _ _ _ _ _)
   | (with_reducible exact ih3 _ _ _ _ _ _ _ _ _ _ _ _ _ _)
   | (with_reducible exact ih4 _ _ _ _ _ _ _)
   | (with_reducible exact ih5 _ _ _ _ _ _ _)
   | (with_reducible exact index_Delete.mono _ _ _ _ _)
   | (with_reducible exact index_Get.mono _ _ _ _ _)
   | (with_reducible exact index_Many.mono _ _ _ _)
   | (with_reducible exact index_Put.mono _ _ _ _ _ _)
   | (with_reducible exact index_Right.mono _ _ _ _)
   | (with_reducible exact l12_awake.mono _)
   | (with_reducible exact LeO.refl _)
   | (with_reducible exact LeO.none _)
   | (with_reducible refine LeO.ite ?_ ?_)
   | (with_reducible refine LeO.bind ?_ (fun _ => ?_))
  ·intro y0 y1 y2 y3 y4 y5 y6 y7 y8 y9 y10 y11 y12 y13
   unfold l12_IndexKeeps.l1
   repeat' first
   | (with_reducible exact ih0 _ _ _ _ _ _ _)
   | (with_reducible exact ih1 _ _ _ _ _ _ _ _)
   | (with_reducible exact ih2 _ _ _ _ _ _ _ _ _ _ _)
   | (with_reducible exact ih3 _ _ _ _ _ _ _ _ _ _ _ _ _ _)
   | (with_reducible exact ih4 _ _ _ _ _ _ _)
   | (with_reducible exact ih5 _ _ _ _ _ _ _)
   | (with_reducible exact index_Delete.mono _ _ _ _ _)
   | (with_reducible exact index_Get.mono _ _ _ _ _)
   | (with_reducible exact index_Many.mono _ _ _ _)
   | (with_reducible exact index_Put.mono _ _ _ _ _ _)
   | (with_reducible exact index_Right.mono _ _ _ _)
   | (with_reducible exact l12_awake.mono _)
   | (with_reducible exact LeO.refl _)
   | (with_reducible exact LeO.none _)
   | (with_reducible refine LeO.ite ?_ ?_)
   | (with_reducible refine LeO.bind ?_ (fun _ => ?_))
  ·intro y0 y1 y2 y3 y4 y5 y6
   unfold l12_IndexKeeps.j4
   repeat' first
   | (with_reducible exact ih0 _ _ _ _ _ _ _)
   | (with_reducible exact ih1 _ _ _ _ _ _ _ _)
   | (with_reducible exact ih2 _ _ _ _ _ _ _ _ _ _ _)
   | (with_reducible exact ih3 _ _ _ _ _ _ _ _ _ _ _ _ _ _)
   | (with_reducible exact ih4 _ _ _ _ _ _ _)
   | (with_reducible exact ih5 _ _ _ _ _ _ _)
   | (with_reducible exact index_Delete.mono _ _ _ _ _)
   | (with_reducible exact index_Get.mono _ _ _ _ _)
   | (with_reducible exact index_Many.mono _ _ _ _)
   | (with_reducible exact index_Put.mono _ _ _ _ _ _)
   | (with_reducible exact index_Right.mono _ _ _ _)
   | (with_reducible exact l12_awake.mono _)
   | (with_reducible exact LeO.refl _)
   | (with_reducible exact LeO.none _)
   | (with_reducible refine LeO.ite ?_ ?_)
   | (with_reducible refine LeO.bind ?_ (fun _ => ?_))
  ·intro y0 y1 y2 y3 y4 y5 y6
   unfold l12_IndexKeeps.l2
   repeat' first
   | (with_reducible exact ih0 _ _ _ _ _ _ _)
   | (with_reducible exact ih1 _ _ _ _ _ _ _ _)
   | (with_reducible exact ih2 _ _ _ _ _ _ _ _ _ _ _)
   | (with_reducible exact ih3 _ _ _ _ _ _ _ _ _ _ _ _ _ _)
   | (with_reducible exact ih4 _ _ _ _ _ _ _)
   | (with_reducible exact ih5 _ _ _ _ _ _ _)
   | (with_reducible exact index_Delete.mono _ _ _ _ _)
   | (with_reducible exact index_Get.mono _ _ _ _ _)
   | (with_reducible exact index_Many.mono _ _ _ _)
   | (with_reducible exact index_Put.mono _ _ _ _ _ _)
   | (with_reducible exact index_Right.mono _ _ _ _)
   | (with_reducible exact l12_awake.mono _)
   | (with_reducible exact LeO.refl _)
   | (with_reducible exact LeO.none _)
   | (with_reducible refine LeO.ite ?_ ?_)
   | (with_reducible refine LeO.bind ?_ (fun _ => ?_))
theorem l12_IndexKeeps.mono : ∀ a0 a1 a2 k, LeO (l12_IndexKeeps.f k a0 a1 a2) (l12_IndexKeeps.f (k + 1) a0 a1 a2) := by
 intro a0 a1 a2 k
 obtain ⟨ih0, ih1, ih2, ih3, ih4, ih5⟩ := l12_IndexKeeps.mono_l k
 unfold l12_IndexKeeps.f
 repeat' first
   | (with_reducible exact ih0 _ _ _ _ _ _ _)
   | (with_reducible exact ih1 _ _ _ _ _ _ _ _)
   | (with_reducible exact ih2 _ _ _ _ _ _ _ _ _ _ _)
   | (with_reducible exact ih3 _ _ _ _ _ _ _ _ _ _ _ _ _ _)
   | (with_reducible exact ih4 _ _ _ _ _ _ _)
   | (with_reducible exact ih5 _ _ _ _ _ _ _)
   | (with_reducible exact index_Delete.mono _ _ _ _ _)
   | (with_reducible exact index_Get.mono _ _ _ _ _)
   | (with_reducible exact index_Many.mono _ _ _ _)
   | (with_reducible exact index_Put.mono _ _ _ _ _ _)
   | (with_reducible exact index_Right.mono _ _ _ _)
   | (with_reducible exact l12_awake.mono _)
   | (with_reducible exact LeO.refl _)
   | (with_reducible exact LeO.none _)
   | (with_reducible refine LeO.ite ?_ ?_)
   | (with_reducible refine LeO.bind ?_ (fun _ => ?_))
def l12_IndexKeeps.T22 : Bool × List (List Nat × List Nat) := (true, [([], []), ([], []), ([], []), ([], []), ([], []), ([], []), ([5], [5]), ([6], [6]), ([4, 7], [4, 7]), ([8], [8]), ([], []), ([], []), ([11], [11]), ([12], [12]), ([10, 13], [10, 13]), ([14], [14]), ([0, 1, 0, 1, 4, 5, 6, 7, 8, 9, 15], [0, 1]), ([16, 9, 0, 1, 4, 5, 6, 7, 8, 9, 15], [9, 16]), ([2, 3, 0, 1, 2, 3, 4, 5, 6, 7, 8, 9, 10, 11, 12, 13, 14, 15, 16, 17], [2, 3]), ([18, 15, 17, 0, 1, 2, 3, 4, 5, 6, 7, 8, 9, 10, 11, 12, 13, 14, 15, 16, 17], [15, 18])])
def l12_IndexKeeps.B22 : List Nat := [0, 0, 0, 0, 0, 0, 32, 96, 240, 496, 0, 0, 2048, 6144, 15360, 31744, 65523, 131059, 262143, 524287]
theorem l12_IndexKeeps.tab22 : rtab .any (opsOf Try.f4 22) = l12_IndexKeeps.T22 := by kernel_rfl
theorem l12_IndexKeeps.bits22 : waitsOk l12_IndexKeeps.T22.2 l12_IndexKeeps.B22 = true := by kernel_rfl
def l12_IndexKeeps.T23 : Bool × List (List Nat × List Nat) := (true, [([], []), ([], []), ([1], [1]), ([2], [2]), ([0, 3], [0, 3]), ([], []), ([], []), ([6], [6]), ([7], [7]), ([5, 8], [5, 8]), ([4, 0, 1, 2, 3, 4], [0, 1, 4]), ([9, 10, 0, 1, 2, 3, 4, 5, 6, 7, 8, 9, 10], [5, 6, 9])])
def l12_IndexKeeps.B23 : List Nat := [0, 0, 2, 6, 15, 0, 0, 64, 192, 480, 31, 2047]
theorem l12_IndexKeeps.tab23 : rtab .any (opsOf Try.f4 23) = l12_IndexKeeps.T23 := by kernel_rfl
theorem l12_IndexKeeps.bits23 : waitsOk l12_IndexKeeps.T23.2 l12_IndexKeeps.B23 = true := by kernel_rfl
def l12_IndexKeeps.T30 : Bool × List (List Nat × List Nat) := (true, [([], []), ([], []), ([1], [1]), ([2], [2]), ([0, 3], [0, 3]), ([], []), ([], []), ([6], [6]), ([7], [7]), ([5, 8, 4], [5, 8]), ([4, 9, 0, 1, 2, 3, 4], [0, 4]), ([9, 10, 0, 1, 2, 3, 4, 5, 6, 7, 8, 9, 10], [5, 9])])
def l12_IndexKeeps.B30 : List Nat := [0, 0, 2, 6, 15, 0, 0, 64, 192, 511, 1023, 2047]
theorem l12_IndexKeeps.tab30 : rtab .any (opsOf Try.f4 30) = l12_IndexKeeps.T30 := by kernel_rfl
theorem l12_IndexKeeps.bits30 : waitsOk l12_IndexKeeps.T30.2 l12_IndexKeeps.B30 = true := by kernel_rfl
set_option maxHeartbeats 8000000 in
set_option maxRecDepth 100000 in
theorem l12_IndexKeeps.calls (k : Nat) (a0_0 : Int) (a0_1 : Int) (A1 : Option Addr) (c1 : Nat) (l1 : List (S56)) (r : Bool) (hrT : Aside0 (r = true)) (w : World) (hr1 : Kd.C k56 w A1 l1.length l1) (hc1 : l1.length ≤ c1) (h : l12_IndexKeeps.f k a0_0 a0_1 l1 = some r) :
  Calls Try.prog 4 #[.agg #[.int .u64 a0_0, .int .u64 a0_1], .slice A1 l1.length c1] w fun e w' => e = .returned (.bool r) ∧ Below w.heap.size w w' := by
 have hu24 := Try.underlying24
 have hu27 := Try.underlying27
 have hu56 := Try.underlying56
 have HR1 := am hr1
 have HC1 := am hc1
 clear hr1 hc1
 have HB := am (Below.refl w.heap.size w)
 have H : ((index_New.f a0_0 a0_1).bind fun bt469 => (l12_IndexKeeps.l0 k l1 ([] : List ByteArray) ([] : List Int) 0 bt469.1 bt469.2.1 bt469.2.2)) = some r := h
 clear h
 replace H := Option.bind_eq_some_iff.mp H
 obtain ⟨⟨t469, t470, t471⟩, A30, H⟩ := H
 replace H : (l12_IndexKeeps.l0 k l1 ([] : List ByteArray) ([] : List Int) 0 t469 t470 t471) = some r := H
 have A3 := am A30
 clear A30
 have H' := am H
 clear H
 go_enter Try.func4, Try.ntmps4
 go_wp2_with (first | ((with_reducible refine gate_dst (N := 2) rfl ?_); (try (refine gate_guard (by rfl) ?_; dsimp only)); refine be 2 #[.int .u64 a0_0, .int .u64 a0_1] 24 ?_; intro gb468 hg w4 hbox hb; have n0_ := am (below_step (pb HB) hb); have n1_ := am (hbox); have n2_ := am ((pg hg HB : w.heap.size ≤ gb468)); have n3_ := am ((pg hg HB : w.heap.size ≤ gb468)); clear HB; have HB := n0_; have BK468 := n1_; have GW468 := n2_; have GE468 := n3_; clear n0_ n1_ n2_ n3_; clear hb hbox hg; have hcz5_0 := ce BK468 0; have hcz5_1 := ce BK468 1; have hfz5_0 := fz BK468 0; have hfz5_1 := fz BK468 1) | ((with_reducible refine gate_callee (f := 22) rfl ?_); refine gl (some 22) Try.func22 #[.agg #[.int .u64 a0_0, .int .u64 a0_1]] ?_; (with_reducible refine (index_New.calls a0_0 a0_1 t469 t470 t471 _ A3.out).mono ?_); rintro e w6 ⟨v472, rfl, ho0, hb⟩; refine ⟨_, rfl, ?_⟩; have HO473 := am (Kd.R_lower ho0 (below_size (pb HB))); replace BK468 := am (blk_below (pk BK468.out) hb); replace HB := am (below_step (pb HB) hb); (try clear hb); (try clear hb2); (try clear hk); (try clear hi); (try clear ho0)) | ((with_reducible refine gate_dst (N := 5) rfl ?_); (try (refine gate_guard (by rfl) ?_; dsimp only)); refine be 5 #[.int .u64 0, .int .u64 0, .slice none 0 0] 27 ?_; intro gb474 hg w7 hbox hb; have n0_ := am (Kd.R_below (pr HO473.out) hb); have n1_ := am (blk_below (pk BK468.out) hb); have n2_ := am (below_step (pb HB) hb); have n3_ := am (hbox); have n4_ := am ((pg hg HB : w.heap.size ≤ gb474)); have n5_ := am ((pg hg HB : w.heap.size ≤ gb474)); have n6_ := am ((pl hg (pk BK468.out) : gb468 ≠ gb474)); have n7_ := am ((pl' hg (pk BK468.out) : gb474 ≠ gb468)); clear HO473; clear BK468; clear HB; have HO473 := n0_; have BK468 := n1_; have HB := n2_; have BK474 := n3_; have GW474 := n4_; have GE474 := n5_; have NB468_474 := n6_; have NB474_468 := n7_; clear n0_ n1_ n2_ n3_ n4_ n5_ n6_ n7_; clear hb hbox hg; have hnb8 := NB474_468.out; have hnc8 := NB468_474.out; have hcz9_0 := ce BK474 0; have hcz9_1 := ce BK474 1; have hcz9_2 := ce BK474 2; have hfz9_0 := fz BK474 0; have hfz9_1 := fz BK474 1; have hfz9_2 := fz BK474 2; obtain ⟨Ao10, co10, eo10⟩ := Kd.R_slice HO473.out; subst eo10))
 go_loopg [6, 7, 8] k (fun kq v6 v7 v8 w' => ∃ (x6_1 : List ByteArray) (x7_1 : List Int) (x8_1 : Int) (x475000_1 : Int) (x475001_1 : Int) (x475002_1 : List (S60)) (u475002 : Value), v8 = .int .i64 x8_1 ∧ Aside0 (l12_IndexKeeps.l0 kq l1 x6_1 x7_1 x8_1 x475000_1 x475001_1 x475002_1 = some r) ∧ Aside0 (kq ≤ k) ∧ Aside0 (Kd.R Kd.string 9 w' w.heap.size (fun _ => True) v6 x6_1) ∧ Aside0 (Kd.R (Kd.int .i64) 3 w' w.heap.size (fun _ => True) v7 x7_1) ∧ Aside0 (Kd.V k60 60 w' w.heap.size (fun k_ => some k_ ≠ (v6 : Value).ownBlock ∧ some k_ ≠ (v7 : Value).ownBlock ∧ k_ ≠ gb468 ∧ k_ ≠ gb474) u475002 x475002_1) ∧ Aside0 (w'.heap[gb468]? = some (.cells #[.int .u64 a0_0, .int .u64 a0_1] 24 (0, 0))) ∧ Aside0 (w'.heap[gb474]? = some (.cells #[.int .u64 x475000_1, .int .u64 x475001_1, u475002] 27 (0, 0))) ∧ Aside0 (Below w.heap.size w w'))
 case atStart => exact ⟨(([] : List ByteArray)), (([] : List Int)), (0), (t469), (t470), (t471), (.slice Ao10 t471.length co10), (by first | rfl | (simp; done) | (simp [*]; done)), H', ⟨Nat.le_refl _⟩, ⟨by first | exact Kd.R_nil _ _ _ _ _ | exact Kd.N_nil _ _ _ _ _ | exact Kd.V_nil _ _ _ _ _ | exact Kd.Q_nil _ _ _ _ _ | exact Kd.S_nil _ _ _ _ _⟩, ⟨by first | exact Kd.R_nil _ _ _ _ _ | exact Kd.N_nil _ _ _ _ _ | exact Kd.V_nil _ _ _ _ _ | exact Kd.Q_nil _ _ _ _ _ | exact Kd.S_nil _ _ _ _ _⟩, ⟨Kd.R_V (pr (Kd.R_mono (Kd.R_far (p := ⟨gb474, 2, none⟩) (Kd.R_far (p := ⟨gb474, 1, none⟩) (Kd.R_far (p := ⟨gb474, 0, none⟩) (Kd.R_types (Kd.R_types (Kd.R_types HO473.out BK468.out (by decide)) BK474.out (by decide)) BK474.out (by decide)) (fun _ hk => hk.2) (.int .u64 t469)) (fun _ hk => hk.2) (.int .u64 t470)) (fun _ hk => hk.2) (.slice Ao10 t471.length co10)) (fun _ hk => ⟨(by simp [Value.ownBlock]), ⟨(by simp [Value.ownBlock]), ⟨hk.1.1.2, hk.1.2⟩⟩⟩)))⟩, ⟨by refine pk ?_; refine blk_far ?_ NB468_474.out _; refine pk ?_; refine blk_far ?_ NB468_474.out _; refine pk ?_; refine blk_far ?_ NB468_474.out _; refine pk ?_; exact BK468.out⟩, ⟨by refine pk ?_; refine blk_put (cs := #[.int .u64 t469, .int .u64 t470, .slice none 0 0]) ?_ 2 _ rfl; refine pk ?_; refine blk_put (cs := #[.int .u64 t469, .int .u64 0, .slice none 0 0]) ?_ 1 _ rfl; refine pk ?_; refine blk_put (cs := #[.int .u64 0, .int .u64 0, .slice none 0 0]) ?_ 0 _ rfl; refine pk ?_; exact BK474.out⟩, ⟨pb HB⟩⟩
 case round =>
  clear H'
  try clear c1
  try clear c2
  try clear p2
  try clear c4
  try clear c8
  try clear hcz5_0 hcz5_1
  try clear hcz9_0 hcz9_1 hcz9_2
  try clear hfz5_0 hfz5_1
  try clear hfz9_0 hfz9_1 hfz9_2
  obtain ⟨x6_1, x7_1, x8_1, x475000_1, x475001_1, x475002_1, u475002, rfl, HA, HK1, HO_6, HO_7, HO_475002, BK468, BK474, HB⟩ := hrel
  cases gk with
  | zero => exact absurd HA.out (by simp [l12_IndexKeeps.l0])
  | succ k1 =>
   have H := HA.out
   clear HA
   simp only [l12_IndexKeeps.l0] at H
   have HC11 := am H
   clear H
   go_upto_region 5 with (fail)
   go_cut [30] (fun v30 wc => ∃ (kq : Nat) (x30_10 : Bool), v30 = .bool x30_10 ∧ Aside0 (l12_IndexKeeps.j1 kq l1 x6_1 x7_1 x8_1 x30_10 x475000_1 x475001_1 x475002_1 = some r) ∧ Aside0 (kq ≤ k1) ∧ Aside0 (Kd.R Kd.string 9 wc w.heap.size (fun _ => True) u6 x6_1) ∧ Aside0 (Kd.R (Kd.int .i64) 3 wc w.heap.size (fun _ => True) u7 x7_1) ∧ Aside0 (Kd.V k60 60 wc w.heap.size (fun k_ => some k_ ≠ (u6 : Value).ownBlock ∧ some k_ ≠ (u7 : Value).ownBlock ∧ k_ ≠ gb468 ∧ k_ ≠ gb474) u475002 x475002_1) ∧ Aside0 (wc.heap[gb468]? = some (.cells #[.int .u64 a0_0, .int .u64 a0_1] 24 (0, 0))) ∧ Aside0 (wc.heap[gb474]? = some (.cells #[.int .u64 x475000_1, .int .u64 x475001_1, u475002] 27 (0, 0))) ∧ Aside0 (Below w.heap.size w wc))
   case first =>
    have H := HC11.out
    clear HC11
    by_cases c12 : x8_1 < (l1.length : Int)
    ·rw [if_pos c12] at H
     have c12b0 : decide (x8_1 < (l1.length : Int)) = true := decide_eq_true c12
     clear c12
     (first | rw [c12b0] | (simp only [i64_w, i32_w]; rw [c12b0]) | skip)
     have H' := am H
     clear H
     go_wp2
     go_meet
     case rel => exact ⟨_, (decide (x8_1 < 100)), (by first | rfl | (simp; done) | (simp [*]; done)), H', ⟨by have := HK1.out; first | omega | exact Nat.le_refl _⟩, ⟨pr HO_6.out⟩, ⟨pr HO_7.out⟩, ⟨pv HO_475002.out⟩, ⟨pk BK468.out⟩, ⟨pk BK474.out⟩, ⟨pb HB⟩⟩
    ·rw [if_neg c12] at H
     have c12b0 : decide (x8_1 < (l1.length : Int)) = false := decide_eq_false c12
     clear c12
     (first | rw [c12b0] | (simp only [i64_w, i32_w]; rw [c12b0]) | skip)
     have H' := am H
     clear H
     go_wp2
     go_meet
     case rel => exact ⟨_, (false), (by first | rfl | (simp; done) | (simp [*]; done)), H', ⟨by have := HK1.out; first | omega | exact Nat.le_refl _⟩, ⟨pr HO_6.out⟩, ⟨pr HO_7.out⟩, ⟨pv HO_475002.out⟩, ⟨pk BK468.out⟩, ⟨pk BK474.out⟩, ⟨pb HB⟩⟩
   case rest =>
    clear HC11
    try clear c1
    try clear c2
    try clear p2
    try clear c4
    try clear c8
    try clear c12
    try clear c12b0
    try clear hcz5_0 hcz5_1
    try clear hcz9_0 hcz9_1 hcz9_2
    try clear hfz5_0 hfz5_1
    try clear hfz9_0 hfz9_1 hfz9_2
    try clear p2
    obtain ⟨kq, x30_10, rfl, HA, HJ10, HO_6, HO_7, HO_475002, BK468, BK474, HB⟩ := hcut
    cases kq with
    | zero => exact absurd HA.out (by simp [l12_IndexKeeps.j1])
    | succ kj10 =>
     have H := HA.out
     clear HA
     simp only [l12_IndexKeeps.j1] at H
     by_cases c13 : x30_10 = true
     ·subst c13
      have H1 : (if 0 ≤ x8_1 then (if x8_1 < (l1.length : Int) then (if (((rd_T56 l1 x8_1).f1).size : Int) > 64 then (l12_IndexKeeps.j2 kj10 l1 x6_1 x7_1 x8_1 true x475000_1 x475001_1 x475002_1 ((rd_T56 l1 x8_1).f0) ((rd_T56 l1 x8_1).f1) ((rd_T56 l1 x8_1).f2)) else (if ((rd_T56 l1 x8_1).f2) < 0 then (l12_IndexKeeps.j2 kj10 l1 x6_1 x7_1 x8_1 true x475000_1 x475001_1 x475002_1 ((rd_T56 l1 x8_1).f0) ((rd_T56 l1 x8_1).f1) ((rd_T56 l1 x8_1).f2)) else (l12_IndexKeeps.j2 kj10 l1 x6_1 x7_1 x8_1 (decide (((rd_T56 l1 x8_1).f2) > 2147483647)) x475000_1 x475001_1 x475002_1 ((rd_T56 l1 x8_1).f0) ((rd_T56 l1 x8_1).f1) ((rd_T56 l1 x8_1).f2)))) else (none)) else (none)) = some r := by rw [if_pos rfl] at H; exact H
      clear H
      have H := H1
      clear H1
      by_cases c14 : 0 ≤ x8_1
      ·rw [if_pos c14] at H
       have c14b0 : decide (0 ≤ x8_1) = true := decide_eq_true c14
       clear c14
       by_cases c15 : x8_1 < (l1.length : Int)
       ·rw [if_pos c15] at H
        have c15b0 : decide (x8_1 < (l1.length : Int)) = true := decide_eq_true c15
        clear c15
        have HC16 := am H
        clear H
        have p475 : 0 ≤ (x8_1 : Int) := of_decide_eq_true (by first | (with_reducible assumption) | assumption)
        have q475 : x8_1 < (l1.length : Int) := of_decide_eq_true (by first | (with_reducible assumption) | assumption)
        obtain ⟨ad475, e475, hx475_0, hx475_1, hx475_2⟩ := at_T56 HR1.out x8_1 p475 q475
        cases e475
        replace hx475_0 := (HB.out.cell (World.block_lt_of_cell? w _ hx475_0)).trans hx475_0
        replace hx475_1 := (HB.out.cell (World.block_lt_of_cell? w _ hx475_1)).trans hx475_1
        replace hx475_2 := (HB.out.cell (World.block_lt_of_cell? w _ hx475_2)).trans hx475_2
        replace p475 := eq_true p475
        replace q475 := eq_true q475
        go_upto_region 8 with (first | ((with_reducible refine gate_dst (N := 9) rfl ?_); (try (refine gate_guard (by rfl) ?_; dsimp only)); refine be 9 #[.bool false, .string (⟨#[]⟩ : ByteArray), .int .i64 0] 56 ?_; intro gb476 hg w17 hbox hb; have n0_ := am (Kd.R_below (pr HO_6.out) hb); have n1_ := am (Kd.R_below (pr HO_7.out) hb); have n2_ := am (Kd.V_below (Kd.V_elderB (pv HO_475002.out) gb476 (Nat.le_of_eq hg.symm)) hb); have n3_ := am (blk_below (pk BK468.out) hb); have n4_ := am (blk_below (pk BK474.out) hb); have n5_ := am (below_step (pb HB) hb); have n6_ := am (hbox); have n7_ := am ((pg hg HB : w.heap.size ≤ gb476)); have n8_ := am ((pg hg HB : w.heap.size ≤ gb476)); have n9_ := am ((pl hg (pk BK468.out) : gb468 ≠ gb476)); have n10_ := am ((pl' hg (pk BK468.out) : gb476 ≠ gb468)); have n11_ := am ((pl hg (pk BK474.out) : gb474 ≠ gb476)); have n12_ := am ((pl' hg (pk BK474.out) : gb476 ≠ gb474)); clear HO_6; clear HO_7; clear HO_475002; clear BK468; clear BK474; clear HB; have HO_6 := n0_; have HO_7 := n1_; have HO_475002 := n2_; have BK468 := n3_; have BK474 := n4_; have HB := n5_; have BK476 := n6_; have GW476 := n7_; have GE476 := n8_; have NB468_476 := n9_; have NB476_468 := n10_; have NB474_476 := n11_; have NB476_474 := n12_; clear n0_ n1_ n2_ n3_ n4_ n5_ n6_ n7_ n8_ n9_ n10_ n11_ n12_; clear hb hbox hg; have hnb18 := NB476_468.out; have hnc18 := NB468_476.out; have hnb19 := NB476_474.out; have hnc19 := NB474_476.out; have hcz20_0 := ce BK476 0; have hcz20_1 := ce BK476 1; have hcz20_2 := ce BK476 2; have hfz20_0 := fz BK476 0; have hfz20_1 := fz BK476 1; have hfz20_2 := fz BK476 2))
        (try simp only [Act.put, List.setIfInBounds_toArray, List.set_cons_zero, List.set_cons_succ])
        go_cut [50] (fun v50 wc => ∃ (kq : Nat) (x50_15 : Bool), v50 = .bool x50_15 ∧ Aside0 (l12_IndexKeeps.j2 kq l1 x6_1 x7_1 x8_1 x50_15 x475000_1 x475001_1 x475002_1 ((rd_T56 l1 x8_1).f0) ((rd_T56 l1 x8_1).f1) ((rd_T56 l1 x8_1).f2) = some r) ∧ Aside0 (kq ≤ kj10) ∧ Aside0 (Kd.R Kd.string 9 wc w.heap.size (fun _ => True) u6 x6_1) ∧ Aside0 (Kd.R (Kd.int .i64) 3 wc w.heap.size (fun _ => True) u7 x7_1) ∧ Aside0 (Kd.V k60 60 wc w.heap.size (fun k_ => some k_ ≠ (u6 : Value).ownBlock ∧ some k_ ≠ (u7 : Value).ownBlock ∧ k_ ≠ gb468 ∧ k_ ≠ gb474 ∧ k_ ≠ gb476) u475002 x475002_1) ∧ Aside0 (wc.heap[gb468]? = some (.cells #[.int .u64 a0_0, .int .u64 a0_1] 24 (0, 0))) ∧ Aside0 (wc.heap[gb474]? = some (.cells #[.int .u64 x475000_1, .int .u64 x475001_1, u475002] 27 (0, 0))) ∧ Aside0 (wc.heap[gb476]? = some (.cells #[.bool ((rd_T56 l1 x8_1).f0), .string ((rd_T56 l1 x8_1).f1), .int .i64 ((rd_T56 l1 x8_1).f2)] 56 (0, 0))) ∧ Aside0 (Below w.heap.size w wc))
        case first =>
         have H := HC16.out
         clear HC16
         by_cases c21 : (((rd_T56 l1 x8_1).f1).size : Int) > 64
         ·rw [if_pos c21] at H
          have c21b0 : decide (64 < (((rd_T56 l1 x8_1).f1).size : Int)) = true := decide_eq_true c21
          have c21b1 : decide (64 < ((rd_T56 l1 x8_1).f1).size) = true := decide_eq_true (by omega)
          clear c21
          (first | rw [c21b0] | (simp only [i64_w, i32_w]; rw [c21b0]) | skip)
          have H' := am H
          clear H
          have hnb22 := NB476_468.out
          have hnc22 := NB468_476.out
          have hnb23 := NB476_474.out
          have hnc23 := NB474_476.out
          have hcz24_0 := ce BK476 0
          have hcz24_1 := ce BK476 1
          have hcz24_2 := ce BK476 2
          have hfz24_0 := fz BK476 0
          have hfz24_1 := fz BK476 1
          have hfz24_2 := fz BK476 2
          go_wp2
          go_meet
          case rel => exact ⟨_, (true), (by first | rfl | (simp; done) | (simp [*]; done)), H', ⟨by have := HK1.out; have := HJ10.out; first | omega | exact Nat.le_refl _⟩, ⟨by refine pr ?_; exact Kd.R_mono (Kd.R_far (p := ⟨gb476, 2, none⟩) (Kd.R_far (p := ⟨gb476, 1, none⟩) (Kd.R_far (p := ⟨gb476, 0, none⟩) (Kd.R_types HO_6.out BK476.out (by decide)) (fun _ hk => hk.2) (.bool ((rd_T56 l1 x8_1).f0))) (fun _ hk => hk.2) (.string ((rd_T56 l1 x8_1).f1))) (fun _ hk => hk.2) (.int .i64 ((rd_T56 l1 x8_1).f2))) (fun _ hk => trivial)⟩, ⟨by refine pr ?_; exact Kd.R_mono (Kd.R_far (p := ⟨gb476, 2, none⟩) (Kd.R_far (p := ⟨gb476, 1, none⟩) (Kd.R_far (p := ⟨gb476, 0, none⟩) (Kd.R_types HO_7.out BK476.out (by decide)) (fun _ hk => hk.2) (.bool ((rd_T56 l1 x8_1).f0))) (fun _ hk => hk.2) (.string ((rd_T56 l1 x8_1).f1))) (fun _ hk => hk.2) (.int .i64 ((rd_T56 l1 x8_1).f2))) (fun _ hk => trivial)⟩, ⟨by refine pv ?_; exact Kd.V_mono (Kd.V_far (p := ⟨gb476, 2, none⟩) (Kd.V_far (p := ⟨gb476, 1, none⟩) (Kd.V_far (p := ⟨gb476, 0, none⟩) (Kd.V_mono HO_475002.out (fun k_ hk => (⟨hk, hk.2⟩ : _ ∧ k_ ≠ gb476))) (fun _ hk => hk.2) (.bool ((rd_T56 l1 x8_1).f0))) (fun _ hk => hk.2) (.string ((rd_T56 l1 x8_1).f1))) (fun _ hk => hk.2) (.int .i64 ((rd_T56 l1 x8_1).f2))) (fun _ hk => ⟨hk.1.1.1, ⟨hk.1.1.2.1, ⟨hk.1.1.2.2.1, ⟨hk.1.1.2.2.2, hk.1.2⟩⟩⟩⟩)⟩, ⟨by refine pk ?_; refine blk_far ?_ NB468_476.out _; refine pk ?_; refine blk_far ?_ NB468_476.out _; refine pk ?_; refine blk_far ?_ NB468_476.out _; refine pk ?_; exact BK468.out⟩, ⟨by refine pk ?_; refine blk_far ?_ NB474_476.out _; refine pk ?_; refine blk_far ?_ NB474_476.out _; refine pk ?_; refine blk_far ?_ NB474_476.out _; refine pk ?_; exact BK474.out⟩, ⟨by refine pk ?_; refine blk_put (cs := #[.bool ((rd_T56 l1 x8_1).f0), .string ((rd_T56 l1 x8_1).f1), .int .i64 0]) ?_ 2 _ rfl; refine pk ?_; refine blk_put (cs := #[.bool ((rd_T56 l1 x8_1).f0), .string (⟨#[]⟩ : ByteArray), .int .i64 0]) ?_ 1 _ rfl; refine pk ?_; refine blk_put (cs := #[.bool false, .string (⟨#[]⟩ : ByteArray), .int .i64 0]) ?_ 0 _ rfl; refine pk ?_; exact BK476.out⟩, ⟨pb HB⟩⟩
         ·rw [if_neg c21] at H
          have c21b0 : decide (64 < (((rd_T56 l1 x8_1).f1).size : Int)) = false := decide_eq_false c21
          have c21b1 : decide (64 < ((rd_T56 l1 x8_1).f1).size) = false := decide_eq_false (by omega)
          clear c21
          (first | rw [c21b0] | (simp only [i64_w, i32_w]; rw [c21b0]) | skip)
          by_cases c25 : ((rd_T56 l1 x8_1).f2) < 0
          ·rw [if_pos c25] at H
           have c25b0 : decide (((rd_T56 l1 x8_1).f2) < 0) = true := decide_eq_true c25
           clear c25
           have H' := am H
           clear H
           have hnb26 := NB476_468.out
           have hnc26 := NB468_476.out
           have hnb27 := NB476_474.out
           have hnc27 := NB474_476.out
           have hcz28_0 := ce BK476 0
           have hcz28_1 := ce BK476 1
           have hcz28_2 := ce BK476 2
           have hfz28_0 := fz BK476 0
           have hfz28_1 := fz BK476 1
           have hfz28_2 := fz BK476 2
           go_wp2
           go_meet
           case rel => exact ⟨_, (true), (by first | rfl | (simp; done) | (simp [*]; done)), H', ⟨by have := HK1.out; have := HJ10.out; first | omega | exact Nat.le_refl _⟩, ⟨by refine pr ?_; exact Kd.R_mono (Kd.R_far (p := ⟨gb476, 2, none⟩) (Kd.R_far (p := ⟨gb476, 1, none⟩) (Kd.R_far (p := ⟨gb476, 0, none⟩) (Kd.R_types HO_6.out BK476.out (by decide)) (fun _ hk => hk.2) (.bool ((rd_T56 l1 x8_1).f0))) (fun _ hk => hk.2) (.string ((rd_T56 l1 x8_1).f1))) (fun _ hk => hk.2) (.int .i64 ((rd_T56 l1 x8_1).f2))) (fun _ hk => trivial)⟩, ⟨by refine pr ?_; exact Kd.R_mono (Kd.R_far (p := ⟨gb476, 2, none⟩) (Kd.R_far (p := ⟨gb476, 1, none⟩) (Kd.R_far (p := ⟨gb476, 0, none⟩) (Kd.R_types HO_7.out BK476.out (by decide)) (fun _ hk => hk.2) (.bool ((rd_T56 l1 x8_1).f0))) (fun _ hk => hk.2) (.string ((rd_T56 l1 x8_1).f1))) (fun _ hk => hk.2) (.int .i64 ((rd_T56 l1 x8_1).f2))) (fun _ hk => trivial)⟩, ⟨by refine pv ?_; exact Kd.V_mono (Kd.V_far (p := ⟨gb476, 2, none⟩) (Kd.V_far (p := ⟨gb476, 1, none⟩) (Kd.V_far (p := ⟨gb476, 0, none⟩) (Kd.V_mono HO_475002.out (fun k_ hk => (⟨hk, hk.2⟩ : _ ∧ k_ ≠ gb476))) (fun _ hk => hk.2) (.bool ((rd_T56 l1 x8_1).f0))) (fun _ hk => hk.2) (.string ((rd_T56 l1 x8_1).f1))) (fun _ hk => hk.2) (.int .i64 ((rd_T56 l1 x8_1).f2))) (fun _ hk => ⟨hk.1.1.1, ⟨hk.1.1.2.1, ⟨hk.1.1.2.2.1, ⟨hk.1.1.2.2.2, hk.1.2⟩⟩⟩⟩)⟩, ⟨by refine pk ?_; refine blk_far ?_ NB468_476.out _; refine pk ?_; refine blk_far ?_ NB468_476.out _; refine pk ?_; refine blk_far ?_ NB468_476.out _; refine pk ?_; exact BK468.out⟩, ⟨by refine pk ?_; refine blk_far ?_ NB474_476.out _; refine pk ?_; refine blk_far ?_ NB474_476.out _; refine pk ?_; refine blk_far ?_ NB474_476.out _; refine pk ?_; exact BK474.out⟩, ⟨by refine pk ?_; refine blk_put (cs := #[.bool ((rd_T56 l1 x8_1).f0), .string ((rd_T56 l1 x8_1).f1), .int .i64 0]) ?_ 2 _ rfl; refine pk ?_; refine blk_put (cs := #[.bool ((rd_T56 l1 x8_1).f0), .string (⟨#[]⟩ : ByteArray), .int .i64 0]) ?_ 1 _ rfl; refine pk ?_; refine blk_put (cs := #[.bool false, .string (⟨#[]⟩ : ByteArray), .int .i64 0]) ?_ 0 _ rfl; refine pk ?_; exact BK476.out⟩, ⟨pb HB⟩⟩
          ·rw [if_neg c25] at H
           have c25b0 : decide (((rd_T56 l1 x8_1).f2) < 0) = false := decide_eq_false c25
           clear c25
           have H' := am H
           clear H
           have hnb29 := NB476_468.out
           have hnc29 := NB468_476.out
           have hnb30 := NB476_474.out
           have hnc30 := NB474_476.out
           have hcz31_0 := ce BK476 0
           have hcz31_1 := ce BK476 1
           have hcz31_2 := ce BK476 2
           have hfz31_0 := fz BK476 0
           have hfz31_1 := fz BK476 1
           have hfz31_2 := fz BK476 2
           go_wp2
           go_meet
           case rel => exact ⟨_, (decide (((rd_T56 l1 x8_1).f2) > 2147483647)), (by first | rfl | (simp; done) | (simp [*]; done)), H', ⟨by have := HK1.out; have := HJ10.out; first | omega | exact Nat.le_refl _⟩, ⟨by refine pr ?_; exact Kd.R_mono (Kd.R_far (p := ⟨gb476, 2, none⟩) (Kd.R_far (p := ⟨gb476, 1, none⟩) (Kd.R_far (p := ⟨gb476, 0, none⟩) (Kd.R_types HO_6.out BK476.out (by decide)) (fun _ hk => hk.2) (.bool ((rd_T56 l1 x8_1).f0))) (fun _ hk => hk.2) (.string ((rd_T56 l1 x8_1).f1))) (fun _ hk => hk.2) (.int .i64 ((rd_T56 l1 x8_1).f2))) (fun _ hk => trivial)⟩, ⟨by refine pr ?_; exact Kd.R_mono (Kd.R_far (p := ⟨gb476, 2, none⟩) (Kd.R_far (p := ⟨gb476, 1, none⟩) (Kd.R_far (p := ⟨gb476, 0, none⟩) (Kd.R_types HO_7.out BK476.out (by decide)) (fun _ hk => hk.2) (.bool ((rd_T56 l1 x8_1).f0))) (fun _ hk => hk.2) (.string ((rd_T56 l1 x8_1).f1))) (fun _ hk => hk.2) (.int .i64 ((rd_T56 l1 x8_1).f2))) (fun _ hk => trivial)⟩, ⟨by refine pv ?_; exact Kd.V_mono (Kd.V_far (p := ⟨gb476, 2, none⟩) (Kd.V_far (p := ⟨gb476, 1, none⟩) (Kd.V_far (p := ⟨gb476, 0, none⟩) (Kd.V_mono HO_475002.out (fun k_ hk => (⟨hk, hk.2⟩ : _ ∧ k_ ≠ gb476))) (fun _ hk => hk.2) (.bool ((rd_T56 l1 x8_1).f0))) (fun _ hk => hk.2) (.string ((rd_T56 l1 x8_1).f1))) (fun _ hk => hk.2) (.int .i64 ((rd_T56 l1 x8_1).f2))) (fun _ hk => ⟨hk.1.1.1, ⟨hk.1.1.2.1, ⟨hk.1.1.2.2.1, ⟨hk.1.1.2.2.2, hk.1.2⟩⟩⟩⟩)⟩, ⟨by refine pk ?_; refine blk_far ?_ NB468_476.out _; refine pk ?_; refine blk_far ?_ NB468_476.out _; refine pk ?_; refine blk_far ?_ NB468_476.out _; refine pk ?_; exact BK468.out⟩, ⟨by refine pk ?_; refine blk_far ?_ NB474_476.out _; refine pk ?_; refine blk_far ?_ NB474_476.out _; refine pk ?_; refine blk_far ?_ NB474_476.out _; refine pk ?_; exact BK474.out⟩, ⟨by refine pk ?_; refine blk_put (cs := #[.bool ((rd_T56 l1 x8_1).f0), .string ((rd_T56 l1 x8_1).f1), .int .i64 0]) ?_ 2 _ rfl; refine pk ?_; refine blk_put (cs := #[.bool ((rd_T56 l1 x8_1).f0), .string (⟨#[]⟩ : ByteArray), .int .i64 0]) ?_ 1 _ rfl; refine pk ?_; refine blk_put (cs := #[.bool false, .string (⟨#[]⟩ : ByteArray), .int .i64 0]) ?_ 0 _ rfl; refine pk ?_; exact BK476.out⟩, ⟨pb HB⟩⟩
        case rest =>
         clear HC16
         try clear c1
         try clear c2
         try clear p2
         try clear c3
         try clear c4
         try clear p4
         try clear q4
         try clear hx4
         try clear c8
         try clear c12
         try clear c12b0
         try clear c13
         try clear c14
         try clear c14b0
         try clear c15
         try clear c15b0
         try clear c18
         try clear c19
         try clear c21
         try clear c21b0
         try clear c21b1
         try clear c22
         try clear c23
         try clear c25
         try clear c25b0
         try clear c26
         try clear c27
         try clear c29
         try clear c30
         try clear hcz20_0 hcz20_1 hcz20_2
         try clear hcz24_0 hcz24_1 hcz24_2
         try clear hcz28_0 hcz28_1 hcz28_2
         try clear hcz31_0 hcz31_1 hcz31_2
         try clear hcz5_0 hcz5_1
         try clear hcz9_0 hcz9_1 hcz9_2
         try clear hfz20_0 hfz20_1 hfz20_2
         try clear hfz24_0 hfz24_1 hfz24_2
         try clear hfz28_0 hfz28_1 hfz28_2
         try clear hfz31_0 hfz31_1 hfz31_2
         try clear hfz5_0 hfz5_1
         try clear hfz9_0 hfz9_1 hfz9_2
         try clear hx475_0
         try clear hx475_1
         try clear hx475_2
         try clear p2
         try clear p475
         try clear q475
         obtain ⟨kq, x50_15, rfl, HA, HJ15, HO_6, HO_7, HO_475002, BK468, BK474, BK476, HB⟩ := hcut
         cases kq with
         | zero => exact absurd HA.out (by simp [l12_IndexKeeps.j2])
         | succ kj15 =>
          have H := HA.out
          clear HA
          simp only [l12_IndexKeeps.j2] at H
          by_cases c32 : x50_15 = true
          ·subst c32
           have H1 : ((l12_awake.f kj15).bind fun t477 => (some t477)) = some r := by rw [if_pos rfl] at H; exact H
           clear H
           have H := H1
           clear H1
           replace H := Option.bind_eq_some_iff.mp H
           obtain ⟨t477, A330, H⟩ := H
           replace H : (some t477) = some r := H
           have A33 := am A330
           clear A330
           obtain rfl := Option.some.inj H
           go_wp2_with (first | ((with_reducible refine gate_callee (f := 10) rfl ?_); refine gl (some 51) Try.func10 #[] ?_; (with_reducible refine (l12_awake.calls kj15  t477 hrT _ A33.out).mono ?_); rintro e w34 ⟨rfl, hb⟩; refine ⟨_, rfl, ?_⟩; replace HO_6 := am (Kd.R_below (pr HO_6.out) hb); replace HO_7 := am (Kd.R_below (pr HO_7.out) hb); replace HO_475002 := am (Kd.V_below (pv HO_475002.out) hb); replace BK468 := am (blk_below (pk BK468.out) hb); replace BK474 := am (blk_below (pk BK474.out) hb); replace BK476 := am (blk_below (pk BK476.out) hb); replace HB := am (below_step (pb HB) hb); (try clear hb); (try clear hb2); (try clear hk); (try clear hi)))
           go_ret
           exact ⟨by first | rfl | (simp [errW_none, errW_some] <;> rfl) | (simp [*, errW_none, errW_some] <;> rfl), pb HB⟩
          ·replace c32 := Bool.eq_false_iff.mpr c32
           subst c32
           have H1 : (l12_IndexKeeps.l1 kj15 l1 x6_1 x7_1 x8_1 (-1) x6_1 (x6_1.length : Int) 0 x475000_1 x475001_1 x475002_1 ((rd_T56 l1 x8_1).f0) ((rd_T56 l1 x8_1).f1) ((rd_T56 l1 x8_1).f2)) = some r := by rw [if_neg (show ¬ (false = true) by decide)] at H; exact H
           clear H
           have H := H1
           clear H1
           have H' := am H
           clear H
           obtain ⟨Ao35, co35, eo35⟩ := Kd.R_slice HO_6.out
           subst eo35
           go_wp2
           go_loopg [10, 54] kj15 (fun kq v10 v54 w' => ∃ (x10_4 : Int) (x54_4 : Int), v10 = .int .i64 x10_4 ∧ v54 = .int .i64 x54_4 ∧ Aside0 (l12_IndexKeeps.l1 kq l1 x6_1 x7_1 x8_1 x10_4 x6_1 (x6_1.length : Int) x54_4 x475000_1 x475001_1 x475002_1 ((rd_T56 l1 x8_1).f0) ((rd_T56 l1 x8_1).f1) ((rd_T56 l1 x8_1).f2) = some r) ∧ Aside0 (kq ≤ kj15) ∧ Aside0 (Kd.R Kd.string 9 w' w.heap.size (fun _ => True) (.slice Ao35 x6_1.length co35) x6_1) ∧ Aside0 (Kd.R (Kd.int .i64) 3 w' w.heap.size (fun _ => True) u7 x7_1) ∧ Aside0 (Kd.R Kd.string 9 w' w.heap.size (fun _ => True) (.slice Ao35 x6_1.length co35) x6_1) ∧ Aside0 (Kd.V k60 60 w' w.heap.size (fun k_ => some k_ ≠ ((.slice Ao35 x6_1.length co35) : Value).ownBlock ∧ some k_ ≠ (u7 : Value).ownBlock ∧ some k_ ≠ ((.slice Ao35 x6_1.length co35) : Value).ownBlock ∧ k_ ≠ gb468 ∧ k_ ≠ gb474 ∧ k_ ≠ gb476) u475002 x475002_1) ∧ Aside0 (w'.heap[gb468]? = some (.cells #[.int .u64 a0_0, .int .u64 a0_1] 24 (0, 0))) ∧ Aside0 (w'.heap[gb474]? = some (.cells #[.int .u64 x475000_1, .int .u64 x475001_1, u475002] 27 (0, 0))) ∧ Aside0 (w'.heap[gb476]? = some (.cells #[.bool ((rd_T56 l1 x8_1).f0), .string ((rd_T56 l1 x8_1).f1), .int .i64 ((rd_T56 l1 x8_1).f2)] 56 (0, 0))) ∧ Aside0 (Below w.heap.size w w'))
           case atStart => exact ⟨((-1)), (0), (by first | rfl | (simp; done) | (simp [*]; done)), (by first | rfl | (simp; done) | (simp [*]; done)), H', ⟨Nat.le_refl _⟩, ⟨pr HO_6.out⟩, ⟨pr HO_7.out⟩, ⟨pr HO_6.out⟩, ⟨by refine pv ?_; exact Kd.V_mono HO_475002.out (fun _ hk => ⟨hk.1, ⟨hk.2.1, ⟨hk.1, ⟨hk.2.2.1, ⟨hk.2.2.2.1, hk.2.2.2.2⟩⟩⟩⟩⟩)⟩, ⟨pk BK468.out⟩, ⟨pk BK474.out⟩, ⟨pk BK476.out⟩, ⟨pb HB⟩⟩
           case round =>
            clear H'
            try clear c1
            try clear c2
            try clear p2
            try clear c3
            try clear c4
            try clear p4
            try clear q4
            try clear hx4
            try clear c8
            try clear c10
            try clear c12
            try clear c12b0
            try clear c13
            try clear c14
            try clear c14b0
            try clear c15
            try clear c15b0
            try clear c18
            try clear c19
            try clear c21
            try clear c21b0
            try clear c21b1
            try clear c22
            try clear c23
            try clear c25
            try clear c25b0
            try clear c26
            try clear c27
            try clear c29
            try clear c30
            try clear c32
            try clear hcz20_0 hcz20_1 hcz20_2
            try clear hcz24_0 hcz24_1 hcz24_2
            try clear hcz28_0 hcz28_1 hcz28_2
            try clear hcz31_0 hcz31_1 hcz31_2
            try clear hcz5_0 hcz5_1
            try clear hcz9_0 hcz9_1 hcz9_2
            try clear hfz20_0 hfz20_1 hfz20_2
            try clear hfz24_0 hfz24_1 hfz24_2
            try clear hfz28_0 hfz28_1 hfz28_2
            try clear hfz31_0 hfz31_1 hfz31_2
            try clear hfz5_0 hfz5_1
            try clear hfz9_0 hfz9_1 hfz9_2
            try clear hx475_0
            try clear hx475_1
            try clear hx475_2
            try clear p2
            try clear p4
            try clear p475
            try clear q4
            try clear q475
            obtain ⟨x10_4, x54_4, rfl, rfl, HA, HK4, HO_6, HO_7, HO_52, HO_475002, BK468, BK474, BK476, HB⟩ := hrel
            cases gk with
            | zero => exact absurd HA.out (by simp [l12_IndexKeeps.l1])
            | succ k4 =>
             have H := HA.out
             clear HA
             simp only [l12_IndexKeeps.l1] at H
             by_cases c36 : x54_4 < (x6_1.length : Int)
             ·rw [if_pos c36] at H
              have c36b0 : decide (x54_4 < (x6_1.length : Int)) = true := decide_eq_true c36
              clear c36
              by_cases c37 : 0 ≤ x54_4
              ·rw [if_pos c37] at H
               have c37b0 : decide (0 ≤ x54_4) = true := decide_eq_true c37
               clear c37
               by_cases c38 : x54_4 < (x6_1.length : Int)
               ·rw [if_pos c38] at H
                have c38b0 : decide (x54_4 < (x6_1.length : Int)) = true := decide_eq_true c38
                clear c38
                by_cases c39 : (rdOf ByteArray.empty x6_1 x54_4).toList = ((rd_T56 l1 x8_1).f1).toList
                ·rw [if_pos c39] at H
                 have c39b0 : ((rdOf ByteArray.empty x6_1 x54_4).toList == ((rd_T56 l1 x8_1).f1).toList) = true := beq_iff_eq.mpr c39
                 have c39b1 : ((rdOf ByteArray.empty x6_1 x54_4).toList != ((rd_T56 l1 x8_1).f1).toList) = false := bne_eq_false_iff_eq.mpr c39
                 clear c39
                 have H' := am H
                 clear H
                 have p478 : 0 ≤ (x54_4 : Int) := of_decide_eq_true (by first | (with_reducible assumption) | assumption)
                 have q478 : x54_4 < (x6_1.length : Int) := of_decide_eq_true (by first | (with_reducible assumption) | assumption)
                 obtain ⟨ad478, e478, hx478_0⟩ := Kd.at_string (Kd.R_reads' HO_52.out).2.2 x54_4 p478 q478
                 cases e478
                 replace p478 := eq_true p478
                 replace q478 := eq_true q478
                 have hnb40 := NB476_468.out
                 have hnc40 := NB468_476.out
                 have hnb41 := NB476_474.out
                 have hnc41 := NB474_476.out
                 have hcz42_0 : wr.cell? ⟨gb476, 0, none⟩ = some (.bool ((rd_T56 l1 x8_1).f0)) := ce BK476 0
                 have hcz42_1 : wr.cell? ⟨gb476, 1, none⟩ = some (.string ((rd_T56 l1 x8_1).f1)) := ce BK476 1
                 have hcz42_2 : wr.cell? ⟨gb476, 2, none⟩ = some (.int .i64 ((rd_T56 l1 x8_1).f2)) := ce BK476 2
                 have hfz42_0 := fz BK476 0
                 have hfz42_1 := fz BK476 1
                 have hfz42_2 := fz BK476 2
                 go_wp2
                 go_roundg k4
                 case measure => have := HK1.out; have := HJ10.out; have := HJ15.out; have := HK4.out; omega
                 case rel => exact ⟨(x54_4), (wrap64 (x54_4 + 1)), (by first | rfl | (simp; done) | (simp [*]; done)), (by first | rfl | (simp; done) | (simp [*]; done)), H', ⟨by have := HK1.out; have := HJ10.out; have := HJ15.out; have := HK4.out; omega⟩, ⟨pr HO_6.out⟩, ⟨pr HO_7.out⟩, ⟨pr HO_52.out⟩, ⟨pv HO_475002.out⟩, ⟨pk BK468.out⟩, ⟨pk BK474.out⟩, ⟨pk BK476.out⟩, ⟨pb HB⟩⟩
                ·rw [if_neg c39] at H
                 have c39b0 : ((rdOf ByteArray.empty x6_1 x54_4).toList == ((rd_T56 l1 x8_1).f1).toList) = false := beq_eq_false_iff_ne.mpr c39
                 have c39b1 : ((rdOf ByteArray.empty x6_1 x54_4).toList != ((rd_T56 l1 x8_1).f1).toList) = true := bne_iff_ne.mpr c39
                 have H' := am H
                 clear H
                 have p478 : 0 ≤ (x54_4 : Int) := of_decide_eq_true (by first | (with_reducible assumption) | assumption)
                 have q478 : x54_4 < (x6_1.length : Int) := of_decide_eq_true (by first | (with_reducible assumption) | assumption)
                 obtain ⟨ad478, e478, hx478_0⟩ := Kd.at_string (Kd.R_reads' HO_52.out).2.2 x54_4 p478 q478
                 cases e478
                 replace p478 := eq_true p478
                 replace q478 := eq_true q478
                 have hnb43 := NB476_468.out
                 have hnc43 := NB468_476.out
                 have hnb44 := NB476_474.out
                 have hnc44 := NB474_476.out
                 have hcz45_0 : wr.cell? ⟨gb476, 0, none⟩ = some (.bool ((rd_T56 l1 x8_1).f0)) := ce BK476 0
                 have hcz45_1 : wr.cell? ⟨gb476, 1, none⟩ = some (.string ((rd_T56 l1 x8_1).f1)) := ce BK476 1
                 have hcz45_2 : wr.cell? ⟨gb476, 2, none⟩ = some (.int .i64 ((rd_T56 l1 x8_1).f2)) := ce BK476 2
                 have hfz45_0 := fz BK476 0
                 have hfz45_1 := fz BK476 1
                 have hfz45_2 := fz BK476 2
                 go_wp2
                 go_roundg k4
                 case measure => have := HK1.out; have := HJ10.out; have := HJ15.out; have := HK4.out; omega
                 case rel => exact ⟨(x10_4), (wrap64 (x54_4 + 1)), (by first | rfl | (simp; done) | (simp [*]; done)), (by first | rfl | (simp; done) | (simp [*]; done)), H', ⟨by have := HK1.out; have := HJ10.out; have := HJ15.out; have := HK4.out; omega⟩, ⟨pr HO_6.out⟩, ⟨pr HO_7.out⟩, ⟨pr HO_52.out⟩, ⟨pv HO_475002.out⟩, ⟨pk BK468.out⟩, ⟨pk BK474.out⟩, ⟨pk BK476.out⟩, ⟨pb HB⟩⟩
               ·rw [if_neg c38] at H
                exact absurd H (by simp)
              ·rw [if_neg c37] at H
               exact absurd H (by simp)
             ·rw [if_neg c36] at H
              have c36b0 : decide (x54_4 < (x6_1.length : Int)) = false := decide_eq_false c36
              clear c36
              have HC46 := am H
              clear H
              have hnb47 := NB476_468.out
              have hnc47 := NB468_476.out
              have hnb48 := NB476_474.out
              have hnc48 := NB474_476.out
              have hcz49_0 : wr.cell? ⟨gb476, 0, none⟩ = some (.bool ((rd_T56 l1 x8_1).f0)) := ce BK476 0
              have hcz49_1 : wr.cell? ⟨gb476, 1, none⟩ = some (.string ((rd_T56 l1 x8_1).f1)) := ce BK476 1
              have hcz49_2 : wr.cell? ⟨gb476, 2, none⟩ = some (.int .i64 ((rd_T56 l1 x8_1).f2)) := ce BK476 2
              have hfz49_0 := fz BK476 0
              have hfz49_1 := fz BK476 1
              have hfz49_2 := fz BK476 2
              go_upto_if 66 with (fail)
              go_cut [6, 7] (fun v6 v7 wc => ∃ (kq : Nat) (x6_45 : List ByteArray) (x7_45 : List Int) (x475000_45 : Int) (x475001_45 : Int) (x475002_45 : List (S60)) (u475002 : Value), Aside0 (l12_IndexKeeps.j4 kq l1 x6_45 x7_45 x8_1 x475000_45 x475001_45 x475002_45 = some r) ∧ Aside0 (kq ≤ k4) ∧ Aside0 (Kd.R Kd.string 9 wc w.heap.size (fun _ => True) v6 x6_45) ∧ Aside0 (Kd.R (Kd.int .i64) 3 wc w.heap.size (fun _ => True) v7 x7_45) ∧ Aside0 (Kd.V k60 60 wc w.heap.size (fun k_ => some k_ ≠ (v6 : Value).ownBlock ∧ some k_ ≠ (v7 : Value).ownBlock ∧ k_ ≠ gb468 ∧ k_ ≠ gb474 ∧ k_ ≠ gb476) u475002 x475002_45) ∧ Aside0 (wc.heap[gb468]? = some (.cells #[.int .u64 a0_0, .int .u64 a0_1] 24 (0, 0))) ∧ Aside0 (wc.heap[gb474]? = some (.cells #[.int .u64 x475000_45, .int .u64 x475001_45, u475002] 27 (0, 0))) ∧ Aside0 (wc.heap[gb476]? = some (.cells #[.bool ((rd_T56 l1 x8_1).f0), .string ((rd_T56 l1 x8_1).f1), .int .i64 ((rd_T56 l1 x8_1).f2)] 56 (0, 0))) ∧ Aside0 (Below w.heap.size w wc))
              case first =>
               have H := HC46.out
               clear HC46
               by_cases c50 : ((rd_T56 l1 x8_1).f0) = true
               ·rw [if_pos c50] at H
                have c50b0 : ((rd_T56 l1 x8_1).f0) = true := c50
                clear c50
                (first | rw [c50b0] | (simp only [i64_w, i32_w]; rw [c50b0]) | skip)
                replace H := Option.bind_eq_some_iff.mp H
                obtain ⟨⟨t479, t480, t481, t484⟩, A510, H⟩ := H
                replace H : (if ((t484 == 0) != (decide (x10_4 ≥ 0))) = true then (some false) else (if x10_4 ≥ 0 then (if 0 ≤ (wrap64 ((x6_1.length : Int) - 1)) then (if (wrap64 ((x6_1.length : Int) - 1)) < (x6_1.length : Int) then (if 0 ≤ (wrap64 ((x7_1.length : Int) - 1)) then (if (wrap64 ((x7_1.length : Int) - 1)) < (x7_1.length : Int) then (if 0 ≤ x10_4 then (if x10_4 < (x6_1.length : Int) then (if x10_4 < (x7_1.length : Int) then (if (wrap64 ((x6_1.length : Int) - 1)) ≤ (x6_1.length : Int) then (if (wrap64 ((x7_1.length : Int) - 1)) ≤ (x7_1.length : Int) then (l12_IndexKeeps.j4 k4 l1 ((x6_1.set (x10_4 : Int).toNat (rdOf ByteArray.empty x6_1 (wrap64 ((x6_1.length : Int) - 1)))).take ((wrap64 ((x6_1.length : Int) - 1)) : Int).toNat) ((x7_1.set (x10_4 : Int).toNat (rd x7_1 (wrap64 ((x7_1.length : Int) - 1)))).take ((wrap64 ((x7_1.length : Int) - 1)) : Int).toNat) x8_1 t479 t480 t481) else (none)) else (none)) else (none)) else (none)) else (none)) else (none)) else (none)) else (none)) else (none)) else (l12_IndexKeeps.j4 k4 l1 x6_1 x7_1 x8_1 t479 t480 t481))) = some r := H
                have A51 := am A510
                clear A510
                by_cases c52 : ((t484 == 0) != (decide (x10_4 ≥ 0))) = true
                ·rw [if_pos c52] at H
                 exact Bool.noConfusion ((Option.some.inj H).trans hrT.out)
                ·rw [if_neg c52] at H
                 have c52b0 : ((t484 == 0) != (decide (x10_4 ≥ 0))) = false := by simpa using c52
                 have z_eq := bne_eq_false_iff_eq.mp c52b0
                 (try (have c52b1 : decide ((t484 == 0) = (decide (x10_4 ≥ 0))) = true := by simpa using c52))
                 (try (have c52b2 : ((t484 == 0) == (decide (x10_4 ≥ 0))) = true := by simpa using c52))
                 clear c52
                 by_cases c66 : x10_4 ≥ 0
                 ·rw [if_pos c66] at H
                  have c66b0 : decide (0 ≤ x10_4) = true := decide_eq_true c66
                  clear c66
                  obtain ⟨ji67, hji67⟩ : ∃ j_ : Int, (wrap64 ((x6_1.length : Int) - 1)) = j_ := ⟨_, rfl⟩
                  replace H : (if 0 ≤ (ji67) then (if (ji67) < (x6_1.length : Int) then (if 0 ≤ (wrap64 ((x7_1.length : Int) - 1)) then (if (wrap64 ((x7_1.length : Int) - 1)) < (x7_1.length : Int) then (if 0 ≤ x10_4 then (if x10_4 < (x6_1.length : Int) then (if x10_4 < (x7_1.length : Int) then (if (ji67) ≤ (x6_1.length : Int) then (if (wrap64 ((x7_1.length : Int) - 1)) ≤ (x7_1.length : Int) then (l12_IndexKeeps.j4 k4 l1 ((x6_1.set (x10_4 : Int).toNat (rdOf ByteArray.empty x6_1 (ji67))).take ((ji67) : Int).toNat) ((x7_1.set (x10_4 : Int).toNat (rd x7_1 (wrap64 ((x7_1.length : Int) - 1)))).take ((wrap64 ((x7_1.length : Int) - 1)) : Int).toNat) x8_1 t479 t480 t481) else (none)) else (none)) else (none)) else (none)) else (none)) else (none)) else (none)) else (none)) else (none)) = some r := by first | (rw [hji67] at H; exact H) | (simp only [hji67] at H ⊢; exact H)
                  (try rw [hji67] at A51)
                  have hji67w : (IntKind.i64.wrap ((x6_1.length : Int) - 1)) = ji67 := (i64_w _).trans hji67
                  by_cases c68 : 0 ≤ (ji67)
                  ·rw [if_pos c68] at H
                   have c68b0 : decide (0 ≤ (ji67)) = true := decide_eq_true c68
                   clear c68
                   by_cases c69 : (ji67) < (x6_1.length : Int)
                   ·rw [if_pos c69] at H
                    have c69b0 : decide ((ji67) < (x6_1.length : Int)) = true := decide_eq_true c69
                    clear c69
                    obtain ⟨ji70, hji70⟩ : ∃ j_ : Int, (wrap64 ((x7_1.length : Int) - 1)) = j_ := ⟨_, rfl⟩
                    replace H : (if 0 ≤ (ji70) then (if (ji70) < (x7_1.length : Int) then (if 0 ≤ x10_4 then (if x10_4 < (x6_1.length : Int) then (if x10_4 < (x7_1.length : Int) then (if (ji67) ≤ (x6_1.length : Int) then (if (ji70) ≤ (x7_1.length : Int) then (l12_IndexKeeps.j4 k4 l1 ((x6_1.set (x10_4 : Int).toNat (rdOf ByteArray.empty x6_1 (ji67))).take ((ji67) : Int).toNat) ((x7_1.set (x10_4 : Int).toNat (rd x7_1 (ji70))).take ((ji70) : Int).toNat) x8_1 t479 t480 t481) else (none)) else (none)) else (none)) else (none)) else (none)) else (none)) else (none)) = some r := by first | (rw [hji70] at H; exact H) | (simp only [hji70] at H ⊢; exact H)
                    (try rw [hji70] at A51)
                    have hji70w : (IntKind.i64.wrap ((x7_1.length : Int) - 1)) = ji70 := (i64_w _).trans hji70
                    by_cases c71 : 0 ≤ (ji70)
                    ·rw [if_pos c71] at H
                     have c71b0 : decide (0 ≤ (ji70)) = true := decide_eq_true c71
                     clear c71
                     by_cases c72 : (ji70) < (x7_1.length : Int)
                     ·rw [if_pos c72] at H
                      have c72b0 : decide ((ji70) < (x7_1.length : Int)) = true := decide_eq_true c72
                      clear c72
                      by_cases c73 : 0 ≤ x10_4
                      ·rw [if_pos c73] at H
                       have c73b0 : decide (0 ≤ x10_4) = true := decide_eq_true c73
                       clear c73
                       by_cases c74 : x10_4 < (x6_1.length : Int)
                       ·rw [if_pos c74] at H
                        have c74b0 : decide (x10_4 < (x6_1.length : Int)) = true := decide_eq_true c74
                        clear c74
                        obtain ⟨y488, hy488⟩ : ∃ y_ : List ByteArray, y_ = (x6_1.set (x10_4 : Int).toNat (rdOf ByteArray.empty x6_1 (ji67))) := ⟨_, rfl⟩
                        replace H : (if x10_4 < (x7_1.length : Int) then (if (ji67) ≤ (x6_1.length : Int) then (if (ji70) ≤ (x7_1.length : Int) then (l12_IndexKeeps.j4 k4 l1 (y488.take ((ji67) : Int).toNat) ((x7_1.set (x10_4 : Int).toNat (rd x7_1 (ji70))).take ((ji70) : Int).toNat) x8_1 t479 t480 t481) else (none)) else (none)) else (none)) = some r := by first | (rw [hy488]; with_reducible exact H) | (have H2_ := (Option.bind_some _ _).symm.trans H; rw [hy488]; with_reducible exact H2_) | (have H2_ := (Option.bind_some _ _).symm.trans H; with_reducible exact H2_) | with_reducible exact H | (rw [hy488]; exact H) | exact H
                        have Ny488 := am hy488
                        clear hy488
                        by_cases c76 : x10_4 < (x7_1.length : Int)
                        ·rw [if_pos c76] at H
                         have c76b0 : decide (x10_4 < (x7_1.length : Int)) = true := decide_eq_true c76
                         clear c76
                         obtain ⟨y489, hy489⟩ : ∃ y_ : List Int, y_ = (x7_1.set (x10_4 : Int).toNat (rd x7_1 (ji70))) := ⟨_, rfl⟩
                         replace H : (if (ji67) ≤ (x6_1.length : Int) then (if (ji70) ≤ (x7_1.length : Int) then (l12_IndexKeeps.j4 k4 l1 (y488.take ((ji67) : Int).toNat) (y489.take ((ji70) : Int).toNat) x8_1 t479 t480 t481) else (none)) else (none)) = some r := by first | (rw [hy489]; with_reducible exact H) | (have H2_ := (Option.bind_some _ _).symm.trans H; rw [hy489]; with_reducible exact H2_) | (have H2_ := (Option.bind_some _ _).symm.trans H; with_reducible exact H2_) | with_reducible exact H | (rw [hy489]; exact H) | exact H
                         have Ny489 := am hy489
                         clear hy489
                         by_cases c78 : (ji67) ≤ (x6_1.length : Int)
                         ·rw [if_pos c78] at H
                          have c78b0 := eq_true c78
                          have c78b1 : decide ((ji67) ≤ (x6_1.length : Int)) = true := decide_eq_true c78
                          clear c78
                          obtain ⟨y490, hy490⟩ : ∃ y_ : List ByteArray, y_ = (y488.take ((ji67) : Int).toNat) := ⟨_, rfl⟩
                          replace H : (if (ji70) ≤ (x7_1.length : Int) then (l12_IndexKeeps.j4 k4 l1 y490 (y489.take ((ji70) : Int).toNat) x8_1 t479 t480 t481) else (none)) = some r := by first | (rw [hy490]; with_reducible exact H) | (have H2_ := (Option.bind_some _ _).symm.trans H; rw [hy490]; with_reducible exact H2_) | (have H2_ := (Option.bind_some _ _).symm.trans H; with_reducible exact H2_) | with_reducible exact H | (rw [hy490]; exact H) | exact H
                          have Ny490 := am hy490
                          clear hy490
                          by_cases c79 : (ji70) ≤ (x7_1.length : Int)
                          ·rw [if_pos c79] at H
                           have c79b0 := eq_true c79
                           have c79b1 : decide ((ji70) ≤ (x7_1.length : Int)) = true := decide_eq_true c79
                           clear c79
                           obtain ⟨y493, hy493⟩ : ∃ y_ : List Int, y_ = (y489.take ((ji70) : Int).toNat) := ⟨_, rfl⟩
                           replace H : (l12_IndexKeeps.j4 k4 l1 y490 y493 x8_1 t479 t480 t481) = some r := by first | (rw [hy493]; with_reducible exact H) | (have H2_ := (Option.bind_some _ _).symm.trans H; rw [hy493]; with_reducible exact H2_) | (have H2_ := (Option.bind_some _ _).symm.trans H; with_reducible exact H2_) | with_reducible exact H | (rw [hy493]; exact H) | exact H
                           have Ny493 := am hy493
                           clear hy493
                           have H' := am H
                           clear H
                           have hnb80 := NB474_468.out
                           have hnc80 := NB468_474.out
                           have hnb81 := NB474_476.out
                           have hnc81 := NB476_474.out
                           have hcz82_0 := ce BK474 0
                           have hcz82_1 := ce BK474 1
                           have hcz82_2 := ce BK474 2
                           have hfz82_0 := fz BK474 0
                           have hfz82_1 := fz BK474 1
                           have hfz82_2 := fz BK474 2
                           have hnb83 := NB476_468.out
                           have hnc83 := NB468_476.out
                           have hcz84_0 : wr.cell? ⟨gb476, 0, none⟩ = some (.bool ((rd_T56 l1 x8_1).f0)) := ce BK476 0
                           have hcz84_1 : wr.cell? ⟨gb476, 1, none⟩ = some (.string ((rd_T56 l1 x8_1).f1)) := ce BK476 1
                           have hcz84_2 : wr.cell? ⟨gb476, 2, none⟩ = some (.int .i64 ((rd_T56 l1 x8_1).f2)) := ce BK476 2
                           have hfz84_0 := fz BK476 0
                           have hfz84_1 := fz BK476 1
                           have hfz84_2 := fz BK476 2
                           obtain ⟨Ao85, co85, eo85⟩ := Kd.V_slice HO_475002.out
                           subst eo85
                           try go_wp2_with (first | ((with_reducible refine gate_callee (f := 14) rfl ?_); refine gl (some 71) Try.func14 #[.agg #[.int .u64 x475000_1, .int .u64 x475001_1, .slice Ao85 x475002_1.length co85], .string ((rd_T56 l1 x8_1).f1)] ?_; (with_reducible refine (index_Delete.calls k4 x475000_1 x475001_1 (fun k_ => (some k_ ≠ (.slice Ao35 x6_1.length co35 : Value).ownBlock ∧ (some k_ ≠ (u7 : Value).ownBlock ∧ (some k_ ≠ (.slice Ao35 x6_1.length co35 : Value).ownBlock ∧ (k_ ≠ gb468 ∧ (k_ ≠ gb474 ∧ k_ ≠ gb476)))))) _ _ x475002_1 ((rd_T56 l1 x8_1).f1) t479 t480 t481 t484 _ ?side1 A51.out).mono ?_); (case side1 => exact HO_475002.out); rintro e w86 ⟨v482, rfl, ho0, hb⟩; refine ⟨_, rfl, ?_⟩; have n0_ := am (Kd.R_below (pr HO_6.out) hb); have n1_ := am (Kd.R_below (pr HO_7.out) hb); have n2_ := am (Kd.R_below (pr HO_52.out) hb); have n3_ := am (Kd.V_below (pv HO_475002.out) hb); have n4_ := am (Kd.V_lower (Kd.V_mono (ok' := fun k_ => some k_ ≠ (.slice Ao35 x6_1.length co35 : Value).ownBlock ∧ some k_ ≠ (u7 : Value).ownBlock ∧ some k_ ≠ (.slice Ao35 x6_1.length co35 : Value).ownBlock ∧ k_ ≠ gb468 ∧ k_ ≠ gb474 ∧ k_ ≠ gb476) ho0 (fun k_ hk_ => ⟨Or.elim hk_ (fun hs_ => hs_.1) (fun hn_ => (Kd.fresh' (Kd.R_lt (pr HO_6.out)) k_ hn_)), Or.elim hk_ (fun hs_ => hs_.2.1) (fun hn_ => (Kd.fresh' (Kd.R_lt (pr HO_7.out)) k_ hn_)), Or.elim hk_ (fun hs_ => hs_.2.2.1) (fun hn_ => (Kd.fresh' (Kd.R_lt (pr HO_52.out)) k_ hn_)), Or.elim hk_ (fun hs_ => hs_.2.2.2.1) (fun hn_ => (Kd.freshB (g := gb468) (o := .cells #[.int .u64 a0_0, .int .u64 a0_1] 24 (0, 0)) (pk BK468.out) k_ hn_)), Or.elim hk_ (fun hs_ => hs_.2.2.2.2.1) (fun hn_ => (Kd.freshB (g := gb474) (o := .cells #[.int .u64 x475000_1, .int .u64 x475001_1, .slice Ao85 x475002_1.length co85] 27 (0, 0)) (pk BK474.out) k_ hn_)), Or.elim hk_ (fun hs_ => hs_.2.2.2.2.2) (fun hn_ => (Kd.freshB (g := gb476) (o := .cells #[.bool ((rd_T56 l1 x8_1).f0), .string ((rd_T56 l1 x8_1).f1), .int .i64 ((rd_T56 l1 x8_1).f2)] 56 (0, 0)) (pk BK476.out) k_ hn_))⟩)) (below_size (pb HB))); have n5_ := am (blk_below (pk BK468.out) hb); have n6_ := am (blk_below (pk BK474.out) hb); have n7_ := am (blk_below (pk BK476.out) hb); have n8_ := am (below_step (pb HB) hb); clear HO_6; clear HO_7; clear HO_52; clear HO_475002; clear BK468; clear BK474; clear BK476; clear HB; have HO_6 := n0_; have HO_7 := n1_; have HO_52 := n2_; have HO_475002 := n3_; have HO483 := n4_; have BK468 := n5_; have BK474 := n6_; have BK476 := n7_; have HB := n8_; clear n0_ n1_ n2_ n3_ n4_ n5_ n6_ n7_ n8_; (try clear hb); (try clear hb2); (try clear hk); (try clear hi); (try clear ho0)) | ((with_reducible refine gate_dst (N := 13) rfl ?_); (try (refine gate_guard (by rfl) ?_; dsimp only)); refine be 13 #[.int .u64 0, .int .u64 0, .slice none 0 0] 27 ?_; intro gb485 hg w87 hbox hb; have n0_ := am (Kd.R_below (pr HO_6.out) hb); have n1_ := am (Kd.R_below (pr HO_7.out) hb); have n2_ := am (Kd.R_below (pr HO_52.out) hb); have n3_ := am (Kd.V_below (Kd.V_elderB (pv HO_475002.out) gb485 (Nat.le_of_eq hg.symm)) hb); have n4_ := am (Kd.V_below (Kd.V_elderB (pv HO483.out) gb485 (Nat.le_of_eq hg.symm)) hb); have n5_ := am (blk_below (pk BK468.out) hb); have n6_ := am (blk_below (pk BK474.out) hb); have n7_ := am (blk_below (pk BK476.out) hb); have n8_ := am (below_step (pb HB) hb); have n9_ := am (hbox); have n10_ := am ((pg hg HB : w.heap.size ≤ gb485)); have n11_ := am ((pg hg HB : w.heap.size ≤ gb485)); have n12_ := am ((pl hg (pk BK468.out) : gb468 ≠ gb485)); have n13_ := am ((pl' hg (pk BK468.out) : gb485 ≠ gb468)); have n14_ := am ((pl hg (pk BK474.out) : gb474 ≠ gb485)); have n15_ := am ((pl' hg (pk BK474.out) : gb485 ≠ gb474)); have n16_ := am ((pl hg (pk BK476.out) : gb476 ≠ gb485)); have n17_ := am ((pl' hg (pk BK476.out) : gb485 ≠ gb476)); clear HO_6; clear HO_7; clear HO_52; clear HO_475002; clear HO483; clear BK468; clear BK474; clear BK476; clear HB; have HO_6 := n0_; have HO_7 := n1_; have HO_52 := n2_; have HO_475002 := n3_; have HO483 := n4_; have BK468 := n5_; have BK474 := n6_; have BK476 := n7_; have HB := n8_; have BK485 := n9_; have GW485 := n10_; have GE485 := n11_; have NB468_485 := n12_; have NB485_468 := n13_; have NB474_485 := n14_; have NB485_474 := n15_; have NB476_485 := n16_; have NB485_476 := n17_; clear n0_ n1_ n2_ n3_ n4_ n5_ n6_ n7_ n8_ n9_ n10_ n11_ n12_ n13_ n14_ n15_ n16_ n17_; clear hb hbox hg; have hnb88 := NB485_468.out; have hnc88 := NB468_485.out; have hnb89 := NB485_474.out; have hnc89 := NB474_485.out; have hnb90 := NB485_476.out; have hnc90 := NB476_485.out; have hcz91_0 := ce BK485 0; have hcz91_1 := ce BK485 1; have hcz91_2 := ce BK485 2; have hfz91_0 := fz BK485 0; have hfz91_1 := fz BK485 1; have hfz91_2 := fz BK485 2; obtain ⟨Ao92, co92, eo92⟩ := Kd.V_slice HO483.out; subst eo92))
                           have n0_ : Aside0 (Kd.R Kd.string 9 (((w87.setCell ⟨gb485, 0, none⟩ (.int .u64 t479)).setCell ⟨gb485, 1, none⟩ (.int .u64 t480)).setCell ⟨gb485, 2, none⟩ (.slice Ao92 t481.length co92)) w.heap.size (fun _ => True) (.slice Ao35 x6_1.length co35) x6_1) := ⟨by refine pr ?_; exact Kd.R_mono (Kd.R_far (p := ⟨gb485, 2, none⟩) (Kd.R_far (p := ⟨gb485, 1, none⟩) (Kd.R_far (p := ⟨gb485, 0, none⟩) (Kd.R_types HO_6.out BK485.out (by decide)) (fun _ hk => hk.2) (.int .u64 t479)) (fun _ hk => hk.2) (.int .u64 t480)) (fun _ hk => hk.2) (.slice Ao92 t481.length co92)) (fun _ hk => trivial)⟩
                           have n1_ : Aside0 (Kd.R (Kd.int .i64) 3 (((w87.setCell ⟨gb485, 0, none⟩ (.int .u64 t479)).setCell ⟨gb485, 1, none⟩ (.int .u64 t480)).setCell ⟨gb485, 2, none⟩ (.slice Ao92 t481.length co92)) w.heap.size (fun _ => True) u7 x7_1) := ⟨by refine pr ?_; exact Kd.R_mono (Kd.R_far (p := ⟨gb485, 2, none⟩) (Kd.R_far (p := ⟨gb485, 1, none⟩) (Kd.R_far (p := ⟨gb485, 0, none⟩) (Kd.R_types HO_7.out BK485.out (by decide)) (fun _ hk => hk.2) (.int .u64 t479)) (fun _ hk => hk.2) (.int .u64 t480)) (fun _ hk => hk.2) (.slice Ao92 t481.length co92)) (fun _ hk => trivial)⟩
                           have n2_ : Aside0 (Kd.R Kd.string 9 (((w87.setCell ⟨gb485, 0, none⟩ (.int .u64 t479)).setCell ⟨gb485, 1, none⟩ (.int .u64 t480)).setCell ⟨gb485, 2, none⟩ (.slice Ao92 t481.length co92)) w.heap.size (fun _ => True) (.slice Ao35 x6_1.length co35) x6_1) := ⟨by refine pr ?_; exact Kd.R_mono (Kd.R_far (p := ⟨gb485, 2, none⟩) (Kd.R_far (p := ⟨gb485, 1, none⟩) (Kd.R_far (p := ⟨gb485, 0, none⟩) (Kd.R_types HO_52.out BK485.out (by decide)) (fun _ hk => hk.2) (.int .u64 t479)) (fun _ hk => hk.2) (.int .u64 t480)) (fun _ hk => hk.2) (.slice Ao92 t481.length co92)) (fun _ hk => trivial)⟩
                           have n3_ : Aside0 (Kd.V k60 60 (((w87.setCell ⟨gb485, 0, none⟩ (.int .u64 t479)).setCell ⟨gb485, 1, none⟩ (.int .u64 t480)).setCell ⟨gb485, 2, none⟩ (.slice Ao92 t481.length co92)) w.heap.size (fun k_ => some k_ ≠ (.slice Ao35 x6_1.length co35 : Value).ownBlock ∧ some k_ ≠ (u7 : Value).ownBlock ∧ some k_ ≠ (.slice Ao35 x6_1.length co35 : Value).ownBlock ∧ k_ ≠ gb468 ∧ k_ ≠ gb474 ∧ k_ ≠ gb476 ∧ k_ ≠ gb485) (.slice Ao85 x475002_1.length co85) x475002_1) := ⟨by refine pv ?_; exact Kd.V_mono (Kd.V_far (p := ⟨gb485, 2, none⟩) (Kd.V_far (p := ⟨gb485, 1, none⟩) (Kd.V_far (p := ⟨gb485, 0, none⟩) (Kd.V_mono HO_475002.out (fun k_ hk => (⟨hk, hk.2⟩ : _ ∧ k_ ≠ gb485))) (fun _ hk => hk.2) (.int .u64 t479)) (fun _ hk => hk.2) (.int .u64 t480)) (fun _ hk => hk.2) (.slice Ao92 t481.length co92)) (fun _ hk => ⟨hk.1.1.1, ⟨hk.1.1.2.1, ⟨hk.1.1.2.2.1, ⟨hk.1.1.2.2.2.1, ⟨hk.1.1.2.2.2.2.1, ⟨hk.1.1.2.2.2.2.2, hk.1.2⟩⟩⟩⟩⟩⟩)⟩
                           have n4_ : Aside0 (Kd.V k60 60 (((w87.setCell ⟨gb485, 0, none⟩ (.int .u64 t479)).setCell ⟨gb485, 1, none⟩ (.int .u64 t480)).setCell ⟨gb485, 2, none⟩ (.slice Ao92 t481.length co92)) w.heap.size (fun k_ => some k_ ≠ (.slice Ao35 x6_1.length co35 : Value).ownBlock ∧ some k_ ≠ (u7 : Value).ownBlock ∧ some k_ ≠ (.slice Ao35 x6_1.length co35 : Value).ownBlock ∧ k_ ≠ gb468 ∧ k_ ≠ gb474 ∧ k_ ≠ gb476 ∧ k_ ≠ gb485) (.slice Ao92 t481.length co92) t481) := ⟨by refine pv ?_; exact Kd.V_mono (Kd.V_far (p := ⟨gb485, 2, none⟩) (Kd.V_far (p := ⟨gb485, 1, none⟩) (Kd.V_far (p := ⟨gb485, 0, none⟩) (Kd.V_mono HO483.out (fun k_ hk => (⟨hk, hk.2⟩ : _ ∧ k_ ≠ gb485))) (fun _ hk => hk.2) (.int .u64 t479)) (fun _ hk => hk.2) (.int .u64 t480)) (fun _ hk => hk.2) (.slice Ao92 t481.length co92)) (fun _ hk => ⟨hk.1.1.1, ⟨hk.1.1.2.1, ⟨hk.1.1.2.2.1, ⟨hk.1.1.2.2.2.1, ⟨hk.1.1.2.2.2.2.1, ⟨hk.1.1.2.2.2.2.2, hk.1.2⟩⟩⟩⟩⟩⟩)⟩
                           have n5_ : Aside0 ((((w87.setCell ⟨gb485, 0, none⟩ (.int .u64 t479)).setCell ⟨gb485, 1, none⟩ (.int .u64 t480)).setCell ⟨gb485, 2, none⟩ (.slice Ao92 t481.length co92)).heap[gb468]? = some (.cells #[.int .u64 a0_0, .int .u64 a0_1] 24 (0, 0))) := ⟨by refine pk ?_; refine blk_far ?_ NB468_485.out _; refine pk ?_; refine blk_far ?_ NB468_485.out _; refine pk ?_; refine blk_far ?_ NB468_485.out _; refine pk ?_; exact BK468.out⟩
                           have n6_ : Aside0 ((((w87.setCell ⟨gb485, 0, none⟩ (.int .u64 t479)).setCell ⟨gb485, 1, none⟩ (.int .u64 t480)).setCell ⟨gb485, 2, none⟩ (.slice Ao92 t481.length co92)).heap[gb474]? = some (.cells #[.int .u64 x475000_1, .int .u64 x475001_1, .slice Ao85 x475002_1.length co85] 27 (0, 0))) := ⟨by refine pk ?_; refine blk_far ?_ NB474_485.out _; refine pk ?_; refine blk_far ?_ NB474_485.out _; refine pk ?_; refine blk_far ?_ NB474_485.out _; refine pk ?_; exact BK474.out⟩
                           have n7_ : Aside0 ((((w87.setCell ⟨gb485, 0, none⟩ (.int .u64 t479)).setCell ⟨gb485, 1, none⟩ (.int .u64 t480)).setCell ⟨gb485, 2, none⟩ (.slice Ao92 t481.length co92)).heap[gb476]? = some (.cells #[.bool ((rd_T56 l1 x8_1).f0), .string ((rd_T56 l1 x8_1).f1), .int .i64 ((rd_T56 l1 x8_1).f2)] 56 (0, 0))) := ⟨by refine pk ?_; refine blk_far ?_ NB476_485.out _; refine pk ?_; refine blk_far ?_ NB476_485.out _; refine pk ?_; refine blk_far ?_ NB476_485.out _; refine pk ?_; exact BK476.out⟩
                           have n8_ : Aside0 ((((w87.setCell ⟨gb485, 0, none⟩ (.int .u64 t479)).setCell ⟨gb485, 1, none⟩ (.int .u64 t480)).setCell ⟨gb485, 2, none⟩ (.slice Ao92 t481.length co92)).heap[gb485]? = some (.cells #[.int .u64 t479, .int .u64 t480, .slice Ao92 t481.length co92] 27 (0, 0))) := ⟨by refine pk ?_; refine blk_put (cs := #[.int .u64 t479, .int .u64 t480, .slice none 0 0]) ?_ 2 _ rfl; refine pk ?_; refine blk_put (cs := #[.int .u64 t479, .int .u64 0, .slice none 0 0]) ?_ 1 _ rfl; refine pk ?_; refine blk_put (cs := #[.int .u64 0, .int .u64 0, .slice none 0 0]) ?_ 0 _ rfl; refine pk ?_; exact BK485.out⟩
                           have n9_ : Aside0 (Below w.heap.size w (((w87.setCell ⟨gb485, 0, none⟩ (.int .u64 t479)).setCell ⟨gb485, 1, none⟩ (.int .u64 t480)).setCell ⟨gb485, 2, none⟩ (.slice Ao92 t481.length co92))) := ⟨pb HB⟩
                           (try clear HO_6)
                           (try clear HO_7)
                           (try clear HO_52)
                           (try clear HO_475002)
                           (try clear HO483)
                           (try clear BK468)
                           (try clear BK474)
                           (try clear BK476)
                           (try clear BK485)
                           (try clear HB)
                           generalize (((w87.setCell ⟨gb485, 0, none⟩ (.int .u64 t479)).setCell ⟨gb485, 1, none⟩ (.int .u64 t480)).setCell ⟨gb485, 2, none⟩ (.slice Ao92 t481.length co92)) = w93 at n0_ n1_ n2_ n3_ n4_ n5_ n6_ n7_ n8_ n9_ ⊢
                           have HO_6 := n0_
                           have HO_7 := n1_
                           have HO_52 := n2_
                           have HO_475002 := n3_
                           have HO483 := n4_
                           have BK468 := n5_
                           have BK474 := n6_
                           have BK476 := n7_
                           have BK485 := n8_
                           have HB := n9_
                           clear n0_ n1_ n2_ n3_ n4_ n5_ n6_ n7_ n8_ n9_
                           replace HO_6 := am (Kd.R_drew HO_6.out)
                           replace HO_7 := am (Kd.R_drew HO_7.out)
                           replace HO_52 := am (Kd.R_drew HO_52.out)
                           replace HO_475002 := am (Kd.V_drew HO_475002.out)
                           replace HO483 := am (Kd.V_drew HO483.out)
                           replace BK468 := am (blk_drew BK468.out)
                           replace BK474 := am (blk_drew BK474.out)
                           replace BK476 := am (blk_drew BK476.out)
                           replace BK485 := am (blk_drew BK485.out)
                           replace HB := am (below_drew1 HB.out)
                           have p486 : 0 ≤ ((ji67) : Int) := of_decide_eq_true (by first | (with_reducible assumption) | assumption)
                           have q486 : (ji67) < (x6_1.length : Int) := of_decide_eq_true (by first | (with_reducible assumption) | assumption)
                           obtain ⟨ad486, e486, hx486_0⟩ := Kd.at_string (Kd.R_reads' HO_6.out).2.2 (ji67) p486 q486
                           cases e486
                           replace p486 := eq_true p486
                           replace q486 := eq_true q486
                           obtain ⟨Ao95, co95, eo95⟩ := Kd.R_slice HO_7.out
                           (first | subst eo95 | (injection eo95 with f1_ f2_ f3_; have f4_ := f1_.symm; have f5_ := f3_.symm; clear f1_ f2_ f3_; subst f4_; subst f5_))
                           have p487 : 0 ≤ ((ji70) : Int) := of_decide_eq_true (by first | (with_reducible assumption) | assumption)
                           have q487 : (ji70) < (x7_1.length : Int) := of_decide_eq_true (by first | (with_reducible assumption) | assumption)
                           obtain ⟨ad487, e487, hx487_0⟩ := Kd.at_int (Kd.R_reads' HO_7.out).2.2 (ji70) p487 q487
                           cases e487
                           replace p487 := eq_true p487
                           replace q487 := eq_true q487
                           have p75 : 0 ≤ (x10_4 : Int) := of_decide_eq_true (by first | (with_reducible assumption) | assumption)
                           have q75 : (x10_4 : Int) < ((x6_1.length : Int) : Int) := of_decide_eq_true (by first | (with_reducible assumption) | assumption)
                           obtain ⟨go75, co75, eo75, gb75, gl75, cl75, HG75⟩ := Kd.R_form HO_6.out (by omega)
                           (first | cases eo75 | (injection eo75 with ea_ en_ ec_; (first | subst ea_ | (injection ea_ with ea_; subst ea_)); subst ec_; clear en_))
                           have GB75 := am gb75
                           have GG75 := am HG75
                           clear gb75 gl75 HG75
                           (first | simp only [add_plain] at hx486_0 | skip)
                           obtain ⟨hx75_0, hf75_0⟩ := Kd.R_celln (⟨#[]⟩ : ByteArray) HO_6.out (x10_4 : Int) p75 q75
                           replace p75 := eq_true p75
                           replace q75 := eq_true q75
                           have HP96 := Kd.R_putn HO_6.out (x10_4 : Int) (rdOf ByteArray.empty x6_1 (ji67))
                           rw [← Ny488.out] at HP96
                           have HQ96 := am HP96
                           clear HP96
                           have p77 : 0 ≤ (x10_4 : Int) := of_decide_eq_true (by first | (with_reducible assumption) | assumption)
                           have q77 : (x10_4 : Int) < ((x7_1.length : Int) : Int) := of_decide_eq_true (by first | (with_reducible assumption) | assumption)
                           obtain ⟨go77, co77, eo77, gb77, gl77, cl77, HG77⟩ := Kd.R_form HO_7.out (by omega)
                           (first | cases eo77 | (injection eo77 with ea_ en_ ec_; (first | subst ea_ | (injection ea_ with ea_; subst ea_)); subst ec_; clear en_))
                           have GB77 := am gb77
                           have GG77 := am HG77
                           clear gb77 gl77 HG77
                           (first | simp only [add_plain] at hx487_0 | skip)
                           obtain ⟨hx77_0, hf77_0⟩ := Kd.R_celln 0 (Kd.R_far (p := ⟨go75, (x10_4 : Int).toNat, none⟩) (Kd.R_types HO_7.out GG75.out (by decide)) (fun _ hk => hk.2) (.string (rdOf ByteArray.empty x6_1 (ji67)))) (x10_4 : Int) p77 q77
                           replace p77 := eq_true p77
                           replace q77 := eq_true q77
                           have HP97 := Kd.R_putn (Kd.R_far (p := ⟨go75, (x10_4 : Int).toNat, none⟩) (Kd.R_types HO_7.out GG75.out (by decide)) (fun _ hk => hk.2) (.string (rdOf ByteArray.empty x6_1 (ji67)))) (x10_4 : Int) (rd x7_1 (ji70))
                           rw [← Ny489.out] at HP97
                           have HQ97 := am HP97
                           clear HP97
                           refine start_ (n := 20) (S := fun w' => w'.cell? ⟨go75, ((ji67)).toNat, none⟩ = some (.string (rdOf ByteArray.empty x6_1 (ji67))) ∧ w'.cell? ⟨go77, ((ji70)).toNat, none⟩ = some (.int .i64 (rd x7_1 (ji70)))) (ds := [17, 19]) #[false, false, false, false, false, false, false, false, false, false, false, false, false, false, false, false, false, false, false, false] (by kernel_rfl) rfl rfl ⟨hx486_0, hx487_0⟩ (fun hHeld => ?_); refine with_tabW l12_IndexKeeps.tab22 l12_IndexKeeps.bits22 (fun HT_ HW_ => ?_)
                           generalize w93.drew = w94 at HO_6 HO_7 HO_52 HO_475002 HO483 BK468 BK474 BK476 BK485 HB GG75 GG77 HQ96 HQ97 hf75_0 hf77_0 hx486_0 hx487_0 hx75_0 hx77_0 hHeld ⊢
                           refine pu 0 ?_
                           refine pu 1 ?_
                           refine pu 2 ?_
                           refine pu 3 ?_
                           refine pu 4 ?_
                           refine pu 5 ?_
                           refine pu 6 ?_
                           refine pu 7 ?_
                           refine pu 8 ?_
                           refine pu 10 ?_
                           refine pu 11 ?_
                           refine pu 12 ?_
                           refine pu 13 ?_
                           refine pu 14 ?_
                           refine ta 9 hHeld ?_
                           refine ta 15 hHeld ?_
                           refine pu 16 ?_
                           refine last_ (i := 17) (N := none) #[true, true, true, true, true, true, true, true, true, true, true, true, true, true, true, true, true, true, false, false] rfl rfl (one_of HT_.out (by kernel_rfl)) (by decide) (fun K hK => ?_)
                           refine skip_ (w1 := ?_) (by rfl) rfl ?_ ?_
                           rotate_left
                           ·go_simp
                            rfl
                           refine hK.out _ _ ?_
                           clear hK K
                           refine pu 18 ?_
                           refine last_ (i := 19) (N := none) #[true, true, true, true, true, true, true, true, true, true, true, true, true, true, true, true, true, true, true, true] rfl rfl (one_of HT_.out (by kernel_rfl)) (by decide) (fun K hK => ?_)
                           refine skip_ (w1 := ?_) (by rfl) rfl ?_ ?_
                           rotate_left
                           ·go_simp
                            rfl
                           refine hK.out _ _ ?_
                           clear hK K
                           refine done_ (done_of HT_.out (by kernel_rfl)) ?_
                           have n0_ : Aside0 (Kd.R Kd.string 9 ((w94.setCell ⟨go75, (x10_4 : Int).toNat, none⟩ (.string (rdOf ByteArray.empty x6_1 (ji67)))).setCell ⟨go77, (x10_4 : Int).toNat, none⟩ (.int .i64 (rd x7_1 (ji70)))) w.heap.size (fun _ => True) (.slice (some ⟨go75, 0, none⟩) x6_1.length co35) y488) := ⟨by refine pr ?_; exact Kd.R_mono (Kd.R_far (p := ⟨go77, (x10_4 : Int).toNat, none⟩) (Kd.R_types HQ96.out (blk_far (p := ⟨go75, (x10_4 : Int).toNat, none⟩) GG77.out (blk_ne GG77.out GG75.out (by decide)) (.string (rdOf ByteArray.empty x6_1 (ji67)))) (by decide)) (fun _ hk => hk.2) (.int .i64 (rd x7_1 (ji70)))) (fun _ hk => trivial)⟩
                           have n1_ : Aside0 (Kd.R (Kd.int .i64) 3 ((w94.setCell ⟨go75, (x10_4 : Int).toNat, none⟩ (.string (rdOf ByteArray.empty x6_1 (ji67)))).setCell ⟨go77, (x10_4 : Int).toNat, none⟩ (.int .i64 (rd x7_1 (ji70)))) w.heap.size (fun _ => True) (.slice (some ⟨go77, 0, none⟩) x7_1.length co95) y489) := ⟨by refine pr ?_; exact Kd.R_mono HQ97.out (fun _ hk => trivial)⟩
                           have n2_ : Aside0 (Kd.V k60 60 ((w94.setCell ⟨go75, (x10_4 : Int).toNat, none⟩ (.string (rdOf ByteArray.empty x6_1 (ji67)))).setCell ⟨go77, (x10_4 : Int).toNat, none⟩ (.int .i64 (rd x7_1 (ji70)))) w.heap.size (fun k_ => some k_ ≠ (.slice (some ⟨go75, 0, none⟩) x6_1.length co35 : Value).ownBlock ∧ some k_ ≠ (.slice (some ⟨go77, 0, none⟩) x7_1.length co95 : Value).ownBlock ∧ k_ ≠ gb468 ∧ k_ ≠ gb474 ∧ k_ ≠ gb476 ∧ k_ ≠ gb485) (.slice Ao85 x475002_1.length co85) x475002_1) := ⟨by refine pv ?_; exact Kd.V_mono (Kd.V_far (p := ⟨go77, (x10_4 : Int).toNat, none⟩) (Kd.V_far (p := ⟨go75, (x10_4 : Int).toNat, none⟩) (Kd.V_mono (Kd.V_mono HO_475002.out (fun k_ hk => (⟨hk, fun e_ => hk.1 (by rw [e_]; rfl)⟩ : _ ∧ k_ ≠ go75))) (fun k_ hk => (⟨hk, fun e_ => hk.1.2.1 (by rw [e_]; rfl)⟩ : _ ∧ k_ ≠ go77))) (fun _ hk => hk.1.2) (.string (rdOf ByteArray.empty x6_1 (ji67)))) (fun _ hk => hk.2) (.int .i64 (rd x7_1 (ji70)))) (fun _ hk => ⟨hk.1.1.1, ⟨hk.1.1.2.1, ⟨hk.1.1.2.2.2.1, ⟨hk.1.1.2.2.2.2.1, ⟨hk.1.1.2.2.2.2.2.1, hk.1.1.2.2.2.2.2.2⟩⟩⟩⟩⟩)⟩
                           have n3_ : Aside0 (Kd.V k60 60 ((w94.setCell ⟨go75, (x10_4 : Int).toNat, none⟩ (.string (rdOf ByteArray.empty x6_1 (ji67)))).setCell ⟨go77, (x10_4 : Int).toNat, none⟩ (.int .i64 (rd x7_1 (ji70)))) w.heap.size (fun k_ => some k_ ≠ (.slice (some ⟨go75, 0, none⟩) x6_1.length co35 : Value).ownBlock ∧ some k_ ≠ (.slice (some ⟨go77, 0, none⟩) x7_1.length co95 : Value).ownBlock ∧ k_ ≠ gb468 ∧ k_ ≠ gb474 ∧ k_ ≠ gb476 ∧ k_ ≠ gb485) (.slice Ao92 t481.length co92) t481) := ⟨by refine pv ?_; exact Kd.V_mono (Kd.V_far (p := ⟨go77, (x10_4 : Int).toNat, none⟩) (Kd.V_far (p := ⟨go75, (x10_4 : Int).toNat, none⟩) (Kd.V_mono (Kd.V_mono HO483.out (fun k_ hk => (⟨hk, fun e_ => hk.1 (by rw [e_]; rfl)⟩ : _ ∧ k_ ≠ go75))) (fun k_ hk => (⟨hk, fun e_ => hk.1.2.1 (by rw [e_]; rfl)⟩ : _ ∧ k_ ≠ go77))) (fun _ hk => hk.1.2) (.string (rdOf ByteArray.empty x6_1 (ji67)))) (fun _ hk => hk.2) (.int .i64 (rd x7_1 (ji70)))) (fun _ hk => ⟨hk.1.1.1, ⟨hk.1.1.2.1, ⟨hk.1.1.2.2.2.1, ⟨hk.1.1.2.2.2.2.1, ⟨hk.1.1.2.2.2.2.2.1, hk.1.1.2.2.2.2.2.2⟩⟩⟩⟩⟩)⟩
                           have n4_ : Aside0 (((w94.setCell ⟨go75, (x10_4 : Int).toNat, none⟩ (.string (rdOf ByteArray.empty x6_1 (ji67)))).setCell ⟨go77, (x10_4 : Int).toNat, none⟩ (.int .i64 (rd x7_1 (ji70)))).heap[gb468]? = some (.cells #[.int .u64 a0_0, .int .u64 a0_1] 24 (0, 0))) := ⟨by refine pk ?_; refine blk_far ?_ (by have h_ := Kd.R_ne HO_7.out BK468.out (by decide); intro e_; exact h_ (by rw [e_]; rfl)) _; refine pk ?_; refine blk_far ?_ (by have h_ := Kd.R_ne HO_6.out BK468.out (by decide); intro e_; exact h_ (by rw [e_]; rfl)) _; refine pk ?_; exact BK468.out⟩
                           have n5_ : Aside0 (((w94.setCell ⟨go75, (x10_4 : Int).toNat, none⟩ (.string (rdOf ByteArray.empty x6_1 (ji67)))).setCell ⟨go77, (x10_4 : Int).toNat, none⟩ (.int .i64 (rd x7_1 (ji70)))).heap[gb474]? = some (.cells #[.int .u64 x475000_1, .int .u64 x475001_1, .slice Ao85 x475002_1.length co85] 27 (0, 0))) := ⟨by refine pk ?_; refine blk_far ?_ (by have h_ := Kd.R_ne HO_7.out BK474.out (by decide); intro e_; exact h_ (by rw [e_]; rfl)) _; refine pk ?_; refine blk_far ?_ (by have h_ := Kd.R_ne HO_6.out BK474.out (by decide); intro e_; exact h_ (by rw [e_]; rfl)) _; refine pk ?_; exact BK474.out⟩
                           have n6_ : Aside0 (((w94.setCell ⟨go75, (x10_4 : Int).toNat, none⟩ (.string (rdOf ByteArray.empty x6_1 (ji67)))).setCell ⟨go77, (x10_4 : Int).toNat, none⟩ (.int .i64 (rd x7_1 (ji70)))).heap[gb476]? = some (.cells #[.bool ((rd_T56 l1 x8_1).f0), .string ((rd_T56 l1 x8_1).f1), .int .i64 ((rd_T56 l1 x8_1).f2)] 56 (0, 0))) := ⟨by refine pk ?_; refine blk_far ?_ (by have h_ := Kd.R_ne HO_7.out BK476.out (by decide); intro e_; exact h_ (by rw [e_]; rfl)) _; refine pk ?_; refine blk_far ?_ (by have h_ := Kd.R_ne HO_6.out BK476.out (by decide); intro e_; exact h_ (by rw [e_]; rfl)) _; refine pk ?_; exact BK476.out⟩
                           have n7_ : Aside0 (((w94.setCell ⟨go75, (x10_4 : Int).toNat, none⟩ (.string (rdOf ByteArray.empty x6_1 (ji67)))).setCell ⟨go77, (x10_4 : Int).toNat, none⟩ (.int .i64 (rd x7_1 (ji70)))).heap[gb485]? = some (.cells #[.int .u64 t479, .int .u64 t480, .slice Ao92 t481.length co92] 27 (0, 0))) := ⟨by refine pk ?_; refine blk_far ?_ (by have h_ := Kd.R_ne HO_7.out BK485.out (by decide); intro e_; exact h_ (by rw [e_]; rfl)) _; refine pk ?_; refine blk_far ?_ (by have h_ := Kd.R_ne HO_6.out BK485.out (by decide); intro e_; exact h_ (by rw [e_]; rfl)) _; refine pk ?_; exact BK485.out⟩
                           have n8_ : Aside0 (Below w.heap.size w ((w94.setCell ⟨go75, (x10_4 : Int).toNat, none⟩ (.string (rdOf ByteArray.empty x6_1 (ji67)))).setCell ⟨go77, (x10_4 : Int).toNat, none⟩ (.int .i64 (rd x7_1 (ji70))))) := ⟨by repeat (first | (with_reducible first | exact HB.out | apply below_alloc | apply pw_below_drewN | apply below_drew1 | refine below_set ?_ GB75.out | refine below_set ?_ GB77.out | refine below_set ?_ GE468.out | refine below_set ?_ GE474.out | refine below_set ?_ GE476.out | refine below_set ?_ GE485.out) | exact HB.out)⟩
                           (try clear HO_6)
                           (try clear HO_7)
                           (try clear HO_475002)
                           (try clear HO483)
                           (try clear BK468)
                           (try clear BK474)
                           (try clear BK476)
                           (try clear BK485)
                           (try clear HB)
                           generalize ((w94.setCell ⟨go75, (x10_4 : Int).toNat, none⟩ (.string (rdOf ByteArray.empty x6_1 (ji67)))).setCell ⟨go77, (x10_4 : Int).toNat, none⟩ (.int .i64 (rd x7_1 (ji70)))) = w98 at n0_ n1_ n2_ n3_ n4_ n5_ n6_ n7_ n8_ ⊢
                           have HO_6 := n0_
                           have HO_7 := n1_
                           have HO_475002 := n2_
                           have HO483 := n3_
                           have BK468 := n4_
                           have BK474 := n5_
                           have BK476 := n6_
                           have BK485 := n7_
                           have HB := n8_
                           clear n0_ n1_ n2_ n3_ n4_ n5_ n6_ n7_ n8_
                           try go_wp2
                           replace HO_6 := am (Kd.R_drew HO_6.out)
                           replace HO_7 := am (Kd.R_drew HO_7.out)
                           replace HO_475002 := am (Kd.V_drew HO_475002.out)
                           replace HO483 := am (Kd.V_drew HO483.out)
                           replace BK468 := am (blk_drew BK468.out)
                           replace BK474 := am (blk_drew BK474.out)
                           replace BK476 := am (blk_drew BK476.out)
                           replace BK485 := am (blk_drew BK485.out)
                           replace HB := am (below_drew1 HB.out)
                           have hz_len6 : y488.length = x6_1.length := (by rw [Ny488.out, List.length_set])
                           have q100 : ((ji67) : Int) ≤ ((x6_1.length : Int) : Int) := of_decide_eq_true (by first | (with_reducible assumption) | assumption)
                           obtain ⟨i0100, hi0100, _, hsz100, _⟩ := info_parts info9
                           have hcut100 := cut_to (P := Try.prog) 53 9 .i64 Try.underlying53 hi0100 (some ⟨go75, 0, none⟩) x6_1.length co35 (ji67) (of_decide_eq_true (by first | (with_reducible assumption) | assumption)) q100 (Kd.R_reads' HO_6.out).2.1
                           have hr100 := Kd.R_take (m := ((ji67) : Int).toNat) HO_6.out (by omega)
                           have hy100 : y490.length = ((ji67) : Int).toNat := (by rw [Ny490.out, List.length_take]; omega)
                           rw [← Ny490.out] at hr100
                           rw [← hy100] at hr100 hcut100
                           clear hy100 hi0100 hsz100 HO_6
                           have HO492 := am hr100
                           clear hr100
                           replace q100 := eq_true q100
                           have hz_len7 : y489.length = x7_1.length := (by rw [Ny489.out, List.length_set])
                           have q101 : ((ji70) : Int) ≤ ((x7_1.length : Int) : Int) := of_decide_eq_true (by first | (with_reducible assumption) | assumption)
                           obtain ⟨i0101, hi0101, _, hsz101, _⟩ := info_parts info3
                           have hcut101 := cut_to (P := Try.prog) 54 3 .i64 Try.underlying54 hi0101 (some ⟨go77, 0, none⟩) x7_1.length co95 (ji70) (of_decide_eq_true (by first | (with_reducible assumption) | assumption)) q101 (Kd.R_reads' HO_7.out).2.1
                           have hr101 := Kd.R_take (m := ((ji70) : Int).toNat) HO_7.out (by omega)
                           have hy101 : y493.length = ((ji70) : Int).toNat := (by rw [Ny493.out, List.length_take]; omega)
                           rw [← Ny493.out] at hr101
                           rw [← hy101] at hr101 hcut101
                           clear hy101 hi0101 hsz101 HO_7
                           have HO495 := am hr101
                           clear hr101
                           replace q101 := eq_true q101
                           refine start_ (n := 12) (S := fun w' => True) (ds := []) #[false, false, false, false, false, false, false, false, false, false, false, false] (by kernel_rfl) rfl rfl trivial (fun hHeld => ?_); refine with_tabW l12_IndexKeeps.tab23 l12_IndexKeeps.bits23 (fun HT_ HW_ => ?_)
                           generalize w98.drew = w99 at HO_6 HO_7 HO_475002 HO483 BK468 BK474 BK476 BK485 HB HO492 HO495 hHeld ⊢
                           refine pu 0 ?_
                           refine pu 1 ?_
                           refine pu 2 ?_
                           refine pu 3 ?_
                           refine pu 4 ?_
                           refine pu 5 ?_
                           refine pu 6 ?_
                           refine pu 7 ?_
                           refine pu 8 ?_
                           refine pu 9 ?_
                           refine pu 10 ?_
                           refine pu 11 ?_
                           refine done_ (done_of HT_.out (by kernel_rfl)) ?_
                           have hcz102_0 := ce BK485 0
                           have hcz102_1 := ce BK485 1
                           have hcz102_2 := ce BK485 2
                           have hfz102_0 := fz BK485 0
                           have hfz102_1 := fz BK485 1
                           have hfz102_2 := fz BK485 2
                           have hcz103_0 := ce BK474 0
                           have hcz103_1 := ce BK474 1
                           have hcz103_2 := ce BK474 2
                           have hfz103_0 := fz BK474 0
                           have hfz103_1 := fz BK474 1
                           have hfz103_2 := fz BK474 2
                           try go_wp2
                           go_meet
                           case rel => exact ⟨_, (y490), (y493), (t479), (t480), (t481), (.slice Ao92 t481.length co92), H', ⟨by have := HK1.out; have := HJ10.out; have := HJ15.out; have := HK4.out; first | omega | exact Nat.le_refl _⟩, ⟨by refine pr ?_; exact Kd.R_mono (Kd.R_far (p := ⟨gb474, 2, none⟩) (Kd.R_far (p := ⟨gb474, 1, none⟩) (Kd.R_far (p := ⟨gb474, 0, none⟩) (Kd.R_types HO492.out BK474.out (by decide)) (fun _ hk => hk.2) (.int .u64 t479)) (fun _ hk => hk.2) (.int .u64 t480)) (fun _ hk => hk.2) (.slice Ao92 t481.length co92)) (fun _ hk => trivial)⟩, ⟨by refine pr ?_; exact Kd.R_mono (Kd.R_far (p := ⟨gb474, 2, none⟩) (Kd.R_far (p := ⟨gb474, 1, none⟩) (Kd.R_far (p := ⟨gb474, 0, none⟩) (Kd.R_types HO495.out BK474.out (by decide)) (fun _ hk => hk.2) (.int .u64 t479)) (fun _ hk => hk.2) (.int .u64 t480)) (fun _ hk => hk.2) (.slice Ao92 t481.length co92)) (fun _ hk => trivial)⟩, ⟨by refine pv ?_; exact Kd.V_mono (Kd.V_far (p := ⟨gb474, 2, none⟩) (Kd.V_far (p := ⟨gb474, 1, none⟩) (Kd.V_far (p := ⟨gb474, 0, none⟩) (Kd.V_mono HO483.out (fun k_ hk => (⟨hk, hk.2.2.2.1⟩ : _ ∧ k_ ≠ gb474))) (fun _ hk => hk.2) (.int .u64 t479)) (fun _ hk => hk.2) (.int .u64 t480)) (fun _ hk => hk.2) (.slice Ao92 t481.length co92)) (fun _ hk => ⟨hk.1.1, ⟨hk.1.2.1, ⟨hk.1.2.2.1, ⟨hk.1.2.2.2.1, hk.1.2.2.2.2.1⟩⟩⟩⟩)⟩, ⟨by refine pk ?_; refine blk_far ?_ NB468_474.out _; refine pk ?_; refine blk_far ?_ NB468_474.out _; refine pk ?_; refine blk_far ?_ NB468_474.out _; refine pk ?_; exact BK468.out⟩, ⟨by refine pk ?_; refine blk_put (cs := #[.int .u64 t479, .int .u64 t480, .slice Ao85 x475002_1.length co85]) ?_ 2 _ rfl; refine pk ?_; refine blk_put (cs := #[.int .u64 t479, .int .u64 x475001_1, .slice Ao85 x475002_1.length co85]) ?_ 1 _ rfl; refine pk ?_; refine blk_put (cs := #[.int .u64 x475000_1, .int .u64 x475001_1, .slice Ao85 x475002_1.length co85]) ?_ 0 _ rfl; refine pk ?_; exact BK474.out⟩, ⟨by refine pk ?_; refine blk_far ?_ NB476_474.out _; refine pk ?_; refine blk_far ?_ NB476_474.out _; refine pk ?_; refine blk_far ?_ NB476_474.out _; refine pk ?_; exact BK476.out⟩, ⟨pb HB⟩⟩
                          ·rw [if_neg c79] at H
                           exact absurd H (by simp)
                         ·rw [if_neg c78] at H
                          exact absurd H (by simp)
                        ·rw [if_neg c76] at H
                         exact absurd H (by simp)
                       ·rw [if_neg c74] at H
                        exact absurd H (by simp)
                      ·rw [if_neg c73] at H
                       exact absurd H (by simp)
                     ·rw [if_neg c72] at H
                      exact absurd H (by simp)
                    ·rw [if_neg c71] at H
                     exact absurd H (by simp)
                   ·rw [if_neg c69] at H
                    exact absurd H (by simp)
                  ·rw [if_neg c68] at H
                   exact absurd H (by simp)
                 ·rw [if_neg c66] at H
                  have c66b0 : decide (0 ≤ x10_4) = false := decide_eq_false c66
                  clear c66
                  have H' := am H
                  clear H
                  have hnb104 := NB474_468.out
                  have hnc104 := NB468_474.out
                  have hnb105 := NB474_476.out
                  have hnc105 := NB476_474.out
                  have hcz106_0 := ce BK474 0
                  have hcz106_1 := ce BK474 1
                  have hcz106_2 := ce BK474 2
                  have hfz106_0 := fz BK474 0
                  have hfz106_1 := fz BK474 1
                  have hfz106_2 := fz BK474 2
                  have hnb107 := NB476_468.out
                  have hnc107 := NB468_476.out
                  have hcz108_0 : wr.cell? ⟨gb476, 0, none⟩ = some (.bool ((rd_T56 l1 x8_1).f0)) := ce BK476 0
                  have hcz108_1 : wr.cell? ⟨gb476, 1, none⟩ = some (.string ((rd_T56 l1 x8_1).f1)) := ce BK476 1
                  have hcz108_2 : wr.cell? ⟨gb476, 2, none⟩ = some (.int .i64 ((rd_T56 l1 x8_1).f2)) := ce BK476 2
                  have hfz108_0 := fz BK476 0
                  have hfz108_1 := fz BK476 1
                  have hfz108_2 := fz BK476 2
                  obtain ⟨Ao109, co109, eo109⟩ := Kd.V_slice HO_475002.out
                  subst eo109
                  go_wp2_with (first | ((with_reducible refine gate_callee (f := 14) rfl ?_); refine gl (some 71) Try.func14 #[.agg #[.int .u64 x475000_1, .int .u64 x475001_1, .slice Ao109 x475002_1.length co109], .string ((rd_T56 l1 x8_1).f1)] ?_; (with_reducible refine (index_Delete.calls k4 x475000_1 x475001_1 (fun k_ => (some k_ ≠ (.slice Ao35 x6_1.length co35 : Value).ownBlock ∧ (some k_ ≠ (u7 : Value).ownBlock ∧ (some k_ ≠ (.slice Ao35 x6_1.length co35 : Value).ownBlock ∧ (k_ ≠ gb468 ∧ (k_ ≠ gb474 ∧ k_ ≠ gb476)))))) _ _ x475002_1 ((rd_T56 l1 x8_1).f1) t479 t480 t481 t484 _ ?side1 A51.out).mono ?_); (case side1 => exact HO_475002.out); rintro e w110 ⟨v482, rfl, ho0, hb⟩; refine ⟨_, rfl, ?_⟩; have n0_ := am (Kd.R_below (pr HO_6.out) hb); have n1_ := am (Kd.R_below (pr HO_7.out) hb); have n2_ := am (Kd.R_below (pr HO_52.out) hb); have n3_ := am (Kd.V_below (pv HO_475002.out) hb); have n4_ := am (Kd.V_lower (Kd.V_mono (ok' := fun k_ => some k_ ≠ (.slice Ao35 x6_1.length co35 : Value).ownBlock ∧ some k_ ≠ (u7 : Value).ownBlock ∧ some k_ ≠ (.slice Ao35 x6_1.length co35 : Value).ownBlock ∧ k_ ≠ gb468 ∧ k_ ≠ gb474 ∧ k_ ≠ gb476) ho0 (fun k_ hk_ => ⟨Or.elim hk_ (fun hs_ => hs_.1) (fun hn_ => (Kd.fresh' (Kd.R_lt (pr HO_6.out)) k_ hn_)), Or.elim hk_ (fun hs_ => hs_.2.1) (fun hn_ => (Kd.fresh' (Kd.R_lt (pr HO_7.out)) k_ hn_)), Or.elim hk_ (fun hs_ => hs_.2.2.1) (fun hn_ => (Kd.fresh' (Kd.R_lt (pr HO_52.out)) k_ hn_)), Or.elim hk_ (fun hs_ => hs_.2.2.2.1) (fun hn_ => (Kd.freshB (g := gb468) (o := .cells #[.int .u64 a0_0, .int .u64 a0_1] 24 (0, 0)) (pk BK468.out) k_ hn_)), Or.elim hk_ (fun hs_ => hs_.2.2.2.2.1) (fun hn_ => (Kd.freshB (g := gb474) (o := .cells #[.int .u64 x475000_1, .int .u64 x475001_1, .slice Ao109 x475002_1.length co109] 27 (0, 0)) (pk BK474.out) k_ hn_)), Or.elim hk_ (fun hs_ => hs_.2.2.2.2.2) (fun hn_ => (Kd.freshB (g := gb476) (o := .cells #[.bool ((rd_T56 l1 x8_1).f0), .string ((rd_T56 l1 x8_1).f1), .int .i64 ((rd_T56 l1 x8_1).f2)] 56 (0, 0)) (pk BK476.out) k_ hn_))⟩)) (below_size (pb HB))); have n5_ := am (blk_below (pk BK468.out) hb); have n6_ := am (blk_below (pk BK474.out) hb); have n7_ := am (blk_below (pk BK476.out) hb); have n8_ := am (below_step (pb HB) hb); clear HO_6; clear HO_7; clear HO_52; clear HO_475002; clear BK468; clear BK474; clear BK476; clear HB; have HO_6 := n0_; have HO_7 := n1_; have HO_52 := n2_; have HO_475002 := n3_; have HO483 := n4_; have BK468 := n5_; have BK474 := n6_; have BK476 := n7_; have HB := n8_; clear n0_ n1_ n2_ n3_ n4_ n5_ n6_ n7_ n8_; (try clear hb); (try clear hb2); (try clear hk); (try clear hi); (try clear ho0)) | ((with_reducible refine gate_dst (N := 13) rfl ?_); (try (refine gate_guard (by rfl) ?_; dsimp only)); refine be 13 #[.int .u64 0, .int .u64 0, .slice none 0 0] 27 ?_; intro gb485 hg w111 hbox hb; have n0_ := am (Kd.R_below (pr HO_6.out) hb); have n1_ := am (Kd.R_below (pr HO_7.out) hb); have n2_ := am (Kd.R_below (pr HO_52.out) hb); have n3_ := am (Kd.V_below (Kd.V_elderB (pv HO_475002.out) gb485 (Nat.le_of_eq hg.symm)) hb); have n4_ := am (Kd.V_below (Kd.V_elderB (pv HO483.out) gb485 (Nat.le_of_eq hg.symm)) hb); have n5_ := am (blk_below (pk BK468.out) hb); have n6_ := am (blk_below (pk BK474.out) hb); have n7_ := am (blk_below (pk BK476.out) hb); have n8_ := am (below_step (pb HB) hb); have n9_ := am (hbox); have n10_ := am ((pg hg HB : w.heap.size ≤ gb485)); have n11_ := am ((pg hg HB : w.heap.size ≤ gb485)); have n12_ := am ((pl hg (pk BK468.out) : gb468 ≠ gb485)); have n13_ := am ((pl' hg (pk BK468.out) : gb485 ≠ gb468)); have n14_ := am ((pl hg (pk BK474.out) : gb474 ≠ gb485)); have n15_ := am ((pl' hg (pk BK474.out) : gb485 ≠ gb474)); have n16_ := am ((pl hg (pk BK476.out) : gb476 ≠ gb485)); have n17_ := am ((pl' hg (pk BK476.out) : gb485 ≠ gb476)); clear HO_6; clear HO_7; clear HO_52; clear HO_475002; clear HO483; clear BK468; clear BK474; clear BK476; clear HB; have HO_6 := n0_; have HO_7 := n1_; have HO_52 := n2_; have HO_475002 := n3_; have HO483 := n4_; have BK468 := n5_; have BK474 := n6_; have BK476 := n7_; have HB := n8_; have BK485 := n9_; have GW485 := n10_; have GE485 := n11_; have NB468_485 := n12_; have NB485_468 := n13_; have NB474_485 := n14_; have NB485_474 := n15_; have NB476_485 := n16_; have NB485_476 := n17_; clear n0_ n1_ n2_ n3_ n4_ n5_ n6_ n7_ n8_ n9_ n10_ n11_ n12_ n13_ n14_ n15_ n16_ n17_; clear hb hbox hg; have hnb112 := NB485_468.out; have hnc112 := NB468_485.out; have hnb113 := NB485_474.out; have hnc113 := NB474_485.out; have hnb114 := NB485_476.out; have hnc114 := NB476_485.out; have hcz115_0 := ce BK485 0; have hcz115_1 := ce BK485 1; have hcz115_2 := ce BK485 2; have hfz115_0 := fz BK485 0; have hfz115_1 := fz BK485 1; have hfz115_2 := fz BK485 2; obtain ⟨Ao116, co116, eo116⟩ := Kd.V_slice HO483.out; subst eo116; have hcz117_0 := ce BK474 0; have hcz117_1 := ce BK474 1; have hcz117_2 := ce BK474 2; have hfz117_0 := fz BK474 0; have hfz117_1 := fz BK474 1; have hfz117_2 := fz BK474 2))
                  go_meet
                  case rel => exact ⟨_, (x6_1), (x7_1), (t479), (t480), (t481), (.slice Ao116 t481.length co116), H', ⟨by have := HK1.out; have := HJ10.out; have := HJ15.out; have := HK4.out; first | omega | exact Nat.le_refl _⟩, ⟨by refine pr ?_; exact Kd.R_mono (Kd.R_far (p := ⟨gb474, 2, none⟩) (Kd.R_far (p := ⟨gb474, 1, none⟩) (Kd.R_far (p := ⟨gb474, 0, none⟩) (Kd.R_far (p := ⟨gb485, 2, none⟩) (Kd.R_far (p := ⟨gb485, 1, none⟩) (Kd.R_far (p := ⟨gb485, 0, none⟩) (Kd.R_types (Kd.R_types HO_6.out BK485.out (by decide)) BK474.out (by decide)) (fun _ hk => hk.1.2) (.int .u64 t479)) (fun _ hk => hk.1.2) (.int .u64 t480)) (fun _ hk => hk.1.2) (.slice Ao116 t481.length co116)) (fun _ hk => hk.2) (.int .u64 t479)) (fun _ hk => hk.2) (.int .u64 t480)) (fun _ hk => hk.2) (.slice Ao116 t481.length co116)) (fun _ hk => trivial)⟩, ⟨by refine pr ?_; exact Kd.R_mono (Kd.R_far (p := ⟨gb474, 2, none⟩) (Kd.R_far (p := ⟨gb474, 1, none⟩) (Kd.R_far (p := ⟨gb474, 0, none⟩) (Kd.R_far (p := ⟨gb485, 2, none⟩) (Kd.R_far (p := ⟨gb485, 1, none⟩) (Kd.R_far (p := ⟨gb485, 0, none⟩) (Kd.R_types (Kd.R_types HO_7.out BK485.out (by decide)) BK474.out (by decide)) (fun _ hk => hk.1.2) (.int .u64 t479)) (fun _ hk => hk.1.2) (.int .u64 t480)) (fun _ hk => hk.1.2) (.slice Ao116 t481.length co116)) (fun _ hk => hk.2) (.int .u64 t479)) (fun _ hk => hk.2) (.int .u64 t480)) (fun _ hk => hk.2) (.slice Ao116 t481.length co116)) (fun _ hk => trivial)⟩, ⟨by refine pv ?_; exact Kd.V_mono (Kd.V_far (p := ⟨gb474, 2, none⟩) (Kd.V_far (p := ⟨gb474, 1, none⟩) (Kd.V_far (p := ⟨gb474, 0, none⟩) (Kd.V_far (p := ⟨gb485, 2, none⟩) (Kd.V_far (p := ⟨gb485, 1, none⟩) (Kd.V_far (p := ⟨gb485, 0, none⟩) (Kd.V_mono (Kd.V_mono HO483.out (fun k_ hk => (⟨hk, hk.2⟩ : _ ∧ k_ ≠ gb485))) (fun k_ hk => (⟨hk, hk.1.1.2.2.2.2.1⟩ : _ ∧ k_ ≠ gb474))) (fun _ hk => hk.1.2) (.int .u64 t479)) (fun _ hk => hk.1.2) (.int .u64 t480)) (fun _ hk => hk.1.2) (.slice Ao116 t481.length co116)) (fun _ hk => hk.2) (.int .u64 t479)) (fun _ hk => hk.2) (.int .u64 t480)) (fun _ hk => hk.2) (.slice Ao116 t481.length co116)) (fun _ hk => ⟨hk.1.1.1.1, ⟨hk.1.1.1.2.1, ⟨hk.1.1.1.2.2.2.1, ⟨hk.1.1.1.2.2.2.2.1, hk.1.1.1.2.2.2.2.2⟩⟩⟩⟩)⟩, ⟨by refine pk ?_; refine blk_far ?_ NB468_474.out _; refine pk ?_; refine blk_far ?_ NB468_474.out _; refine pk ?_; refine blk_far ?_ NB468_474.out _; refine pk ?_; refine blk_far ?_ NB468_485.out _; refine pk ?_; refine blk_far ?_ NB468_485.out _; refine pk ?_; refine blk_far ?_ NB468_485.out _; refine pk ?_; exact BK468.out⟩, ⟨by refine pk ?_; refine blk_put (cs := #[.int .u64 t479, .int .u64 t480, .slice Ao109 x475002_1.length co109]) ?_ 2 _ rfl; refine pk ?_; refine blk_put (cs := #[.int .u64 t479, .int .u64 x475001_1, .slice Ao109 x475002_1.length co109]) ?_ 1 _ rfl; refine pk ?_; refine blk_put (cs := #[.int .u64 x475000_1, .int .u64 x475001_1, .slice Ao109 x475002_1.length co109]) ?_ 0 _ rfl; refine pk ?_; refine blk_far ?_ NB474_485.out _; refine pk ?_; refine blk_far ?_ NB474_485.out _; refine pk ?_; refine blk_far ?_ NB474_485.out _; refine pk ?_; exact BK474.out⟩, ⟨by refine pk ?_; refine blk_far ?_ NB476_474.out _; refine pk ?_; refine blk_far ?_ NB476_474.out _; refine pk ?_; refine blk_far ?_ NB476_474.out _; refine pk ?_; refine blk_far ?_ NB476_485.out _; refine pk ?_; refine blk_far ?_ NB476_485.out _; refine pk ?_; refine blk_far ?_ NB476_485.out _; refine pk ?_; exact BK476.out⟩, ⟨pb HB⟩⟩
               ·rw [if_neg c50] at H
                have c50b0 : ((rd_T56 l1 x8_1).f0) = false := by simpa using c50
                clear c50
                (first | rw [c50b0] | (simp only [i64_w, i32_w]; rw [c50b0]) | skip)
                replace H := Option.bind_eq_some_iff.mp H
                obtain ⟨⟨t496, t497, t498, t501⟩, A1180, H⟩ := H
                replace H : (if t501 = 0 then (if x10_4 ≥ 0 then (if 0 ≤ x10_4 then (if x10_4 < (x7_1.length : Int) then (l12_IndexKeeps.j4 k4 l1 x6_1 (x7_1.set (x10_4 : Int).toNat ((rd_T56 l1 x8_1).f2)) x8_1 t496 t497 t498) else (none)) else (none)) else ((some (([((rd_T56 l1 x8_1).f1)] : List ByteArray) : List ByteArray)).bind fun y504 => (if x6_1.length + y504.length < 8796093022208 then ((some (([((rd_T56 l1 x8_1).f2)] : List Int) : List Int)).bind fun y510 => (if x7_1.length + y510.length < 17592186044416 then (l12_IndexKeeps.j4 k4 l1 (x6_1 ++ y504) (x7_1 ++ y510) x8_1 t496 t497 t498) else (none))) else (none)))) else (some false)) = some r := H
                have A118 := am A1180
                clear A1180
                by_cases c119 : t501 = 0
                ·rw [if_pos c119] at H
                 have c119b0 : (t501 == 0) = true := beq_iff_eq.mpr c119
                 have c119b1 : (t501 != 0) = false := bne_eq_false_iff_eq.mpr c119
                 clear c119
                 by_cases c120 : x10_4 ≥ 0
                 ·rw [if_pos c120] at H
                  have c120b0 : decide (0 ≤ x10_4) = true := decide_eq_true c120
                  clear c120
                  by_cases c121 : 0 ≤ x10_4
                  ·rw [if_pos c121] at H
                   have c121b0 : decide (0 ≤ x10_4) = true := decide_eq_true c121
                   clear c121
                   by_cases c122 : x10_4 < (x7_1.length : Int)
                   ·rw [if_pos c122] at H
                    have c122b0 : decide (x10_4 < (x7_1.length : Int)) = true := decide_eq_true c122
                    clear c122
                    obtain ⟨y503, hy503⟩ : ∃ y_ : List Int, y_ = (x7_1.set (x10_4 : Int).toNat ((rd_T56 l1 x8_1).f2)) := ⟨_, rfl⟩
                    replace H : (l12_IndexKeeps.j4 k4 l1 x6_1 y503 x8_1 t496 t497 t498) = some r := by first | (rw [hy503]; with_reducible exact H) | (have H2_ := (Option.bind_some _ _).symm.trans H; rw [hy503]; with_reducible exact H2_) | (have H2_ := (Option.bind_some _ _).symm.trans H; with_reducible exact H2_) | with_reducible exact H | (rw [hy503]; exact H) | exact H
                    have Ny503 := am hy503
                    clear hy503
                    have H' := am H
                    clear H
                    have hnb124 := NB474_468.out
                    have hnc124 := NB468_474.out
                    have hnb125 := NB474_476.out
                    have hnc125 := NB476_474.out
                    have hcz126_0 := ce BK474 0
                    have hcz126_1 := ce BK474 1
                    have hcz126_2 := ce BK474 2
                    have hfz126_0 := fz BK474 0
                    have hfz126_1 := fz BK474 1
                    have hfz126_2 := fz BK474 2
                    have hnb127 := NB476_468.out
                    have hnc127 := NB468_476.out
                    have hcz128_0 : wr.cell? ⟨gb476, 0, none⟩ = some (.bool ((rd_T56 l1 x8_1).f0)) := ce BK476 0
                    have hcz128_1 : wr.cell? ⟨gb476, 1, none⟩ = some (.string ((rd_T56 l1 x8_1).f1)) := ce BK476 1
                    have hcz128_2 : wr.cell? ⟨gb476, 2, none⟩ = some (.int .i64 ((rd_T56 l1 x8_1).f2)) := ce BK476 2
                    have hfz128_0 := fz BK476 0
                    have hfz128_1 := fz BK476 1
                    have hfz128_2 := fz BK476 2
                    obtain ⟨Ao129, co129, eo129⟩ := Kd.V_slice HO_475002.out
                    subst eo129
                    go_wp2_with (first | ((with_reducible refine gate_callee (f := 13) rfl ?_); refine gl (some 116) Try.func13 #[.agg #[.int .u64 x475000_1, .int .u64 x475001_1, .slice Ao129 x475002_1.length co129], .string ((rd_T56 l1 x8_1).f1), .int .i64 ((rd_T56 l1 x8_1).f2)] ?_; (with_reducible refine (index_Put.calls k4 x475000_1 x475001_1 (fun k_ => (some k_ ≠ (.slice Ao35 x6_1.length co35 : Value).ownBlock ∧ (some k_ ≠ (u7 : Value).ownBlock ∧ (some k_ ≠ (.slice Ao35 x6_1.length co35 : Value).ownBlock ∧ (k_ ≠ gb468 ∧ (k_ ≠ gb474 ∧ k_ ≠ gb476)))))) _ _ x475002_1 ((rd_T56 l1 x8_1).f1) ((rd_T56 l1 x8_1).f2) t496 t497 t498 t501 _ ?side1 A118.out).mono ?_); (case side1 => exact HO_475002.out); rintro e w130 ⟨v499, rfl, ho0, hb⟩; refine ⟨_, rfl, ?_⟩; have n0_ := am (Kd.R_below (pr HO_6.out) hb); have n1_ := am (Kd.R_below (pr HO_7.out) hb); have n2_ := am (Kd.R_below (pr HO_52.out) hb); have n3_ := am (Kd.V_below (pv HO_475002.out) hb); have n4_ := am (Kd.V_lower (Kd.V_mono (ok' := fun k_ => some k_ ≠ (.slice Ao35 x6_1.length co35 : Value).ownBlock ∧ some k_ ≠ (u7 : Value).ownBlock ∧ some k_ ≠ (.slice Ao35 x6_1.length co35 : Value).ownBlock ∧ k_ ≠ gb468 ∧ k_ ≠ gb474 ∧ k_ ≠ gb476) ho0 (fun k_ hk_ => ⟨Or.elim hk_ (fun hs_ => hs_.1) (fun hn_ => (Kd.fresh' (Kd.R_lt (pr HO_6.out)) k_ hn_)), Or.elim hk_ (fun hs_ => hs_.2.1) (fun hn_ => (Kd.fresh' (Kd.R_lt (pr HO_7.out)) k_ hn_)), Or.elim hk_ (fun hs_ => hs_.2.2.1) (fun hn_ => (Kd.fresh' (Kd.R_lt (pr HO_52.out)) k_ hn_)), Or.elim hk_ (fun hs_ => hs_.2.2.2.1) (fun hn_ => (Kd.freshB (g := gb468) (o := .cells #[.int .u64 a0_0, .int .u64 a0_1] 24 (0, 0)) (pk BK468.out) k_ hn_)), Or.elim hk_ (fun hs_ => hs_.2.2.2.2.1) (fun hn_ => (Kd.freshB (g := gb474) (o := .cells #[.int .u64 x475000_1, .int .u64 x475001_1, .slice Ao129 x475002_1.length co129] 27 (0, 0)) (pk BK474.out) k_ hn_)), Or.elim hk_ (fun hs_ => hs_.2.2.2.2.2) (fun hn_ => (Kd.freshB (g := gb476) (o := .cells #[.bool ((rd_T56 l1 x8_1).f0), .string ((rd_T56 l1 x8_1).f1), .int .i64 ((rd_T56 l1 x8_1).f2)] 56 (0, 0)) (pk BK476.out) k_ hn_))⟩)) (below_size (pb HB))); have n5_ := am (blk_below (pk BK468.out) hb); have n6_ := am (blk_below (pk BK474.out) hb); have n7_ := am (blk_below (pk BK476.out) hb); have n8_ := am (below_step (pb HB) hb); clear HO_6; clear HO_7; clear HO_52; clear HO_475002; clear BK468; clear BK474; clear BK476; clear HB; have HO_6 := n0_; have HO_7 := n1_; have HO_52 := n2_; have HO_475002 := n3_; have HO500 := n4_; have BK468 := n5_; have BK474 := n6_; have BK476 := n7_; have HB := n8_; clear n0_ n1_ n2_ n3_ n4_ n5_ n6_ n7_ n8_; (try clear hb); (try clear hb2); (try clear hk); (try clear hi); (try clear ho0)) | ((with_reducible refine gate_dst (N := 15) rfl ?_); (try (refine gate_guard (by rfl) ?_; dsimp only)); refine be 15 #[.int .u64 0, .int .u64 0, .slice none 0 0] 27 ?_; intro gb502 hg w131 hbox hb; have n0_ := am (Kd.R_below (pr HO_6.out) hb); have n1_ := am (Kd.R_below (pr HO_7.out) hb); have n2_ := am (Kd.R_below (pr HO_52.out) hb); have n3_ := am (Kd.V_below (Kd.V_elderB (pv HO_475002.out) gb502 (Nat.le_of_eq hg.symm)) hb); have n4_ := am (Kd.V_below (Kd.V_elderB (pv HO500.out) gb502 (Nat.le_of_eq hg.symm)) hb); have n5_ := am (blk_below (pk BK468.out) hb); have n6_ := am (blk_below (pk BK474.out) hb); have n7_ := am (blk_below (pk BK476.out) hb); have n8_ := am (below_step (pb HB) hb); have n9_ := am (hbox); have n10_ := am ((pg hg HB : w.heap.size ≤ gb502)); have n11_ := am ((pg hg HB : w.heap.size ≤ gb502)); have n12_ := am ((pl hg (pk BK468.out) : gb468 ≠ gb502)); have n13_ := am ((pl' hg (pk BK468.out) : gb502 ≠ gb468)); have n14_ := am ((pl hg (pk BK474.out) : gb474 ≠ gb502)); have n15_ := am ((pl' hg (pk BK474.out) : gb502 ≠ gb474)); have n16_ := am ((pl hg (pk BK476.out) : gb476 ≠ gb502)); have n17_ := am ((pl' hg (pk BK476.out) : gb502 ≠ gb476)); clear HO_6; clear HO_7; clear HO_52; clear HO_475002; clear HO500; clear BK468; clear BK474; clear BK476; clear HB; have HO_6 := n0_; have HO_7 := n1_; have HO_52 := n2_; have HO_475002 := n3_; have HO500 := n4_; have BK468 := n5_; have BK474 := n6_; have BK476 := n7_; have HB := n8_; have BK502 := n9_; have GW502 := n10_; have GE502 := n11_; have NB468_502 := n12_; have NB502_468 := n13_; have NB474_502 := n14_; have NB502_474 := n15_; have NB476_502 := n16_; have NB502_476 := n17_; clear n0_ n1_ n2_ n3_ n4_ n5_ n6_ n7_ n8_ n9_ n10_ n11_ n12_ n13_ n14_ n15_ n16_ n17_; clear hb hbox hg; have hnb132 := NB502_468.out; have hnc132 := NB468_502.out; have hnb133 := NB502_474.out; have hnc133 := NB474_502.out; have hnb134 := NB502_476.out; have hnc134 := NB476_502.out; have hcz135_0 := ce BK502 0; have hcz135_1 := ce BK502 1; have hcz135_2 := ce BK502 2; have hfz135_0 := fz BK502 0; have hfz135_1 := fz BK502 1; have hfz135_2 := fz BK502 2; obtain ⟨Ao136, co136, eo136⟩ := Kd.V_slice HO500.out; subst eo136) | ((with_reducible refine gate_store (t := 27) (p := 15) rfl ?_); refine store_event (t := 27) (p := 15) (v := ?vo_w137) (w1 := (((w131.setCell ⟨gb502, 0, none⟩ (.int .u64 t496)).setCell ⟨gb502, 1, none⟩ (.int .u64 t497)).setCell ⟨gb502, 2, none⟩ (.slice Ao136 t498.length co136))) ?hg ?ho ?hn ?hr ?_; (case ho => rfl); (case hg => rfl); (case hn => rfl); (case hr => first | (go_simp; done) | (go_simp; rfl)); intro w137 hw; replace HO_6 : Aside0 (Kd.R Kd.string 9 w137 w.heap.size (fun _ => True) (.slice Ao35 x6_1.length co35) x6_1) := ⟨(by rw [hw]; exact (pr (Kd.R_mono (Kd.R_far (p := ⟨gb502, 2, none⟩) (Kd.R_far (p := ⟨gb502, 1, none⟩) (Kd.R_far (p := ⟨gb502, 0, none⟩) (Kd.R_types HO_6.out BK502.out (by decide)) (fun _ hk => hk.2) (.int .u64 t496)) (fun _ hk => hk.2) (.int .u64 t497)) (fun _ hk => hk.2) (.slice Ao136 t498.length co136)) (fun _ hk => trivial))))⟩; replace HO_7 : Aside0 (Kd.R (Kd.int .i64) 3 w137 w.heap.size (fun _ => True) u7 x7_1) := ⟨(by rw [hw]; exact (pr (Kd.R_mono (Kd.R_far (p := ⟨gb502, 2, none⟩) (Kd.R_far (p := ⟨gb502, 1, none⟩) (Kd.R_far (p := ⟨gb502, 0, none⟩) (Kd.R_types HO_7.out BK502.out (by decide)) (fun _ hk => hk.2) (.int .u64 t496)) (fun _ hk => hk.2) (.int .u64 t497)) (fun _ hk => hk.2) (.slice Ao136 t498.length co136)) (fun _ hk => trivial))))⟩; replace HO_52 : Aside0 (Kd.R Kd.string 9 w137 w.heap.size (fun _ => True) (.slice Ao35 x6_1.length co35) x6_1) := ⟨(by rw [hw]; exact (pr (Kd.R_mono (Kd.R_far (p := ⟨gb502, 2, none⟩) (Kd.R_far (p := ⟨gb502, 1, none⟩) (Kd.R_far (p := ⟨gb502, 0, none⟩) (Kd.R_types HO_52.out BK502.out (by decide)) (fun _ hk => hk.2) (.int .u64 t496)) (fun _ hk => hk.2) (.int .u64 t497)) (fun _ hk => hk.2) (.slice Ao136 t498.length co136)) (fun _ hk => trivial))))⟩; replace HO_475002 : Aside0 (Kd.V k60 60 w137 w.heap.size (fun k_ => some k_ ≠ (.slice Ao35 x6_1.length co35 : Value).ownBlock ∧ some k_ ≠ (u7 : Value).ownBlock ∧ some k_ ≠ (.slice Ao35 x6_1.length co35 : Value).ownBlock ∧ k_ ≠ gb468 ∧ k_ ≠ gb474 ∧ k_ ≠ gb476 ∧ k_ ≠ gb502) (.slice Ao129 x475002_1.length co129) x475002_1) := ⟨(by rw [hw]; exact (pv (Kd.V_mono (Kd.V_far (p := ⟨gb502, 2, none⟩) (Kd.V_far (p := ⟨gb502, 1, none⟩) (Kd.V_far (p := ⟨gb502, 0, none⟩) (Kd.V_mono HO_475002.out (fun k_ hk => (⟨hk, hk.2⟩ : _ ∧ k_ ≠ gb502))) (fun _ hk => hk.2) (.int .u64 t496)) (fun _ hk => hk.2) (.int .u64 t497)) (fun _ hk => hk.2) (.slice Ao136 t498.length co136)) (fun _ hk => ⟨hk.1.1.1, ⟨hk.1.1.2.1, ⟨hk.1.1.2.2.1, ⟨hk.1.1.2.2.2.1, ⟨hk.1.1.2.2.2.2.1, ⟨hk.1.1.2.2.2.2.2, hk.1.2⟩⟩⟩⟩⟩⟩))))⟩; replace HO500 : Aside0 (Kd.V k60 60 w137 w.heap.size (fun k_ => some k_ ≠ (.slice Ao35 x6_1.length co35 : Value).ownBlock ∧ some k_ ≠ (u7 : Value).ownBlock ∧ some k_ ≠ (.slice Ao35 x6_1.length co35 : Value).ownBlock ∧ k_ ≠ gb468 ∧ k_ ≠ gb474 ∧ k_ ≠ gb476 ∧ k_ ≠ gb502) (.slice Ao136 t498.length co136) t498) := ⟨(by rw [hw]; exact (pv (Kd.V_mono (Kd.V_far (p := ⟨gb502, 2, none⟩) (Kd.V_far (p := ⟨gb502, 1, none⟩) (Kd.V_far (p := ⟨gb502, 0, none⟩) (Kd.V_mono HO500.out (fun k_ hk => (⟨hk, hk.2⟩ : _ ∧ k_ ≠ gb502))) (fun _ hk => hk.2) (.int .u64 t496)) (fun _ hk => hk.2) (.int .u64 t497)) (fun _ hk => hk.2) (.slice Ao136 t498.length co136)) (fun _ hk => ⟨hk.1.1.1, ⟨hk.1.1.2.1, ⟨hk.1.1.2.2.1, ⟨hk.1.1.2.2.2.1, ⟨hk.1.1.2.2.2.2.1, ⟨hk.1.1.2.2.2.2.2, hk.1.2⟩⟩⟩⟩⟩⟩))))⟩; replace BK468 : Aside0 (w137.heap[gb468]? = some (.cells #[.int .u64 a0_0, .int .u64 a0_1] 24 (0, 0))) := ⟨(by rw [hw]; exact (by refine pk ?_; refine blk_far ?_ NB468_502.out _; refine pk ?_; refine blk_far ?_ NB468_502.out _; refine pk ?_; refine blk_far ?_ NB468_502.out _; refine pk ?_; exact BK468.out))⟩; replace BK474 : Aside0 (w137.heap[gb474]? = some (.cells #[.int .u64 x475000_1, .int .u64 x475001_1, .slice Ao129 x475002_1.length co129] 27 (0, 0))) := ⟨(by rw [hw]; exact (by refine pk ?_; refine blk_far ?_ NB474_502.out _; refine pk ?_; refine blk_far ?_ NB474_502.out _; refine pk ?_; refine blk_far ?_ NB474_502.out _; refine pk ?_; exact BK474.out))⟩; replace BK476 : Aside0 (w137.heap[gb476]? = some (.cells #[.bool ((rd_T56 l1 x8_1).f0), .string ((rd_T56 l1 x8_1).f1), .int .i64 ((rd_T56 l1 x8_1).f2)] 56 (0, 0))) := ⟨(by rw [hw]; exact (by refine pk ?_; refine blk_far ?_ NB476_502.out _; refine pk ?_; refine blk_far ?_ NB476_502.out _; refine pk ?_; refine blk_far ?_ NB476_502.out _; refine pk ?_; exact BK476.out))⟩; replace BK502 : Aside0 (w137.heap[gb502]? = some (.cells #[.int .u64 t496, .int .u64 t497, .slice Ao136 t498.length co136] 27 (0, 0))) := ⟨(by rw [hw]; exact (by refine pk ?_; refine blk_put (cs := #[.int .u64 t496, .int .u64 t497, .slice none 0 0]) ?_ 2 _ rfl; refine pk ?_; refine blk_put (cs := #[.int .u64 t496, .int .u64 0, .slice none 0 0]) ?_ 1 _ rfl; refine pk ?_; refine blk_put (cs := #[.int .u64 0, .int .u64 0, .slice none 0 0]) ?_ 0 _ rfl; refine pk ?_; exact BK502.out))⟩; replace HB : Aside0 (Below w.heap.size w w137) := ⟨(by rw [hw]; exact (pb HB))⟩; clear hw; have hcz138_0 : w137.cell? ⟨gb476, 0, none⟩ = some (.bool ((rd_T56 l1 x8_1).f0)) := ce BK476 0; have hcz138_1 : w137.cell? ⟨gb476, 1, none⟩ = some (.string ((rd_T56 l1 x8_1).f1)) := ce BK476 1; have hcz138_2 : w137.cell? ⟨gb476, 2, none⟩ = some (.int .i64 ((rd_T56 l1 x8_1).f2)) := ce BK476 2; have hfz138_0 := fz BK476 0; have hfz138_1 := fz BK476 1; have hfz138_2 := fz BK476 2; have p123 : 0 ≤ (x10_4 : Int) := of_decide_eq_true (by first | (with_reducible assumption) | assumption); have q123 : (x10_4 : Int) < ((x7_1.length : Int) : Int) := of_decide_eq_true (by first | (with_reducible assumption) | assumption); obtain ⟨go123, co123, eo123, gb123, gl123, cl123, HG123⟩ := Kd.R_form HO_7.out (by omega); (first | cases eo123 | (injection eo123 with ea_ en_ ec_; (first | subst ea_ | (injection ea_ with ea_; subst ea_)); subst ec_; clear en_)); have GB123 := am gb123; have GG123 := am HG123; clear gb123 gl123 HG123; obtain ⟨hx123_0, hf123_0⟩ := Kd.R_celln 0 HO_7.out (x10_4 : Int) p123 q123; replace p123 := eq_true p123; replace q123 := eq_true q123; obtain ⟨hy139_, hz139_⟩ := Kd.R_celln 0 HO_7.out (x10_4 : Int) (of_decide_eq_true (by first | (with_reducible assumption) | assumption)) (of_decide_eq_true (by first | (with_reducible assumption) | assumption)); have HP139 := Kd.R_putg HO_7.out (x10_4 : Int) ((rd_T56 l1 x8_1).f2)) | ((with_reducible refine gate_store (t := 3) (p := 127) rfl ?_); refine store_event (t := 3) (p := 127) (v := ?vo_w140) (w1 := (w137.setCell ⟨go123, (x10_4 : Int).toNat, none⟩ (.int .i64 ((rd_T56 l1 x8_1).f2)))) ?hg ?ho ?hn ?hr ?_; (case ho => rfl); (case hg => rfl); (case hn => rfl); (case hr => first | (go_simp; done) | (go_simp; rfl)); intro w140 hw; have hg : w137.grownBy w140 (some go123) := (by rw [hw]; exact HP139.2); have hp_ : Kd.R (Kd.int .i64) 3 w140 w.heap.size (fun _ => True) (.slice (some ⟨go123, 0, none⟩) x7_1.length co123) y503 := (by rw [hw, Ny503.out]; exact HP139.1); clear HP139; have n0_ := am (Kd.R_over' (v := (.slice (some ⟨go123, 0, none⟩) x7_1.length co123)) (pr HO_6.out) (Kd.R_typed HO_7.out) (by decide) hg); have n1_ := am (hp_); have n2_ := am (Kd.R_over' (v := (.slice (some ⟨go123, 0, none⟩) x7_1.length co123)) (pr HO_52.out) (Kd.R_typed HO_7.out) (by decide) hg); have n3_ := am (Kd.V_afterv (v := (.slice (some ⟨go123, 0, none⟩) x7_1.length co123)) (v1 := (.slice (some ⟨go123, 0, none⟩) x7_1.length co123)) (ok := (fun k_ => some k_ ≠ (.slice Ao35 x6_1.length co35 : Value).ownBlock ∧ some k_ ≠ (.slice Ao35 x6_1.length co35 : Value).ownBlock ∧ k_ ≠ gb468 ∧ k_ ≠ gb474 ∧ k_ ≠ gb476 ∧ k_ ≠ gb502)) (pv (Kd.V_mono HO_475002.out (fun _ hk => ⟨⟨hk.1, ⟨hk.2.2.1, ⟨hk.2.2.2.1, ⟨hk.2.2.2.2.1, ⟨hk.2.2.2.2.2.1, hk.2.2.2.2.2.2⟩⟩⟩⟩⟩, hk.2.1⟩))) hg (.inl rfl)); have n4_ := am (blk_grown (g := gb468) (o := .cells #[.int .u64 a0_0, .int .u64 a0_1] 24 (0, 0)) (pk BK468.out) hg (Kd.R_ne HO_7.out BK468.out (by decide))); have n5_ := am (blk_grown (g := gb474) (o := .cells #[.int .u64 x475000_1, .int .u64 x475001_1, .slice Ao129 x475002_1.length co129] 27 (0, 0)) (pk BK474.out) hg (Kd.R_ne HO_7.out BK474.out (by decide))); have n6_ := am (blk_grown (g := gb476) (o := .cells #[.bool ((rd_T56 l1 x8_1).f0), .string ((rd_T56 l1 x8_1).f1), .int .i64 ((rd_T56 l1 x8_1).f2)] 56 (0, 0)) (pk BK476.out) hg (Kd.R_ne HO_7.out BK476.out (by decide))); have n7_ := am (Kd.V_afterv (v := (.slice (some ⟨go123, 0, none⟩) x7_1.length co123)) (v1 := (.slice (some ⟨go123, 0, none⟩) x7_1.length co123)) (ok := (fun k_ => some k_ ≠ (.slice Ao35 x6_1.length co35 : Value).ownBlock ∧ some k_ ≠ (.slice Ao35 x6_1.length co35 : Value).ownBlock ∧ k_ ≠ gb468 ∧ k_ ≠ gb474 ∧ k_ ≠ gb476 ∧ k_ ≠ gb502)) (pv (Kd.V_mono HO500.out (fun _ hk => ⟨⟨hk.1, ⟨hk.2.2.1, ⟨hk.2.2.2.1, ⟨hk.2.2.2.2.1, ⟨hk.2.2.2.2.2.1, hk.2.2.2.2.2.2⟩⟩⟩⟩⟩, hk.2.1⟩))) hg (.inl rfl)); have n8_ := am (blk_grown (g := gb502) (o := .cells #[.int .u64 t496, .int .u64 t497, .slice Ao136 t498.length co136] 27 (0, 0)) (pk BK502.out) hg (Kd.R_ne HO_7.out BK502.out (by decide))); have n9_ := am ((by rw [hw]; exact below_set (HB.out) GB123.out : Below w.heap.size w w140)); clear HO_6; clear HO_7; clear HO_52; clear HO_475002; clear BK468; clear BK474; clear BK476; clear HO500; clear BK502; clear HB; have HO_6 := n0_; have HO_7 := n1_; have HO_52 := n2_; have HO_475002 := n3_; have BK468 := n4_; have BK474 := n5_; have BK476 := n6_; have HO500 := n7_; have BK502 := n8_; have HB := n9_; clear n0_ n1_ n2_ n3_ n4_ n5_ n6_ n7_ n8_ n9_; clear hg hw hp_; have hcz141_0 := ce BK502 0; have hcz141_1 := ce BK502 1; have hcz141_2 := ce BK502 2; have hfz141_0 := fz BK502 0; have hfz141_1 := fz BK502 1; have hfz141_2 := fz BK502 2; have hcz142_0 := ce BK474 0; have hcz142_1 := ce BK474 1; have hcz142_2 := ce BK474 2; have hfz142_0 := fz BK474 0; have hfz142_1 := fz BK474 1; have hfz142_2 := fz BK474 2))
                    go_meet
                    case rel => exact ⟨_, (x6_1), (y503), (t496), (t497), (t498), (.slice Ao136 t498.length co136), H', ⟨by have := HK1.out; have := HJ10.out; have := HJ15.out; have := HK4.out; first | omega | exact Nat.le_refl _⟩, ⟨by refine pr ?_; exact Kd.R_mono (Kd.R_far (p := ⟨gb474, 2, none⟩) (Kd.R_far (p := ⟨gb474, 1, none⟩) (Kd.R_far (p := ⟨gb474, 0, none⟩) (Kd.R_types HO_6.out BK474.out (by decide)) (fun _ hk => hk.2) (.int .u64 t496)) (fun _ hk => hk.2) (.int .u64 t497)) (fun _ hk => hk.2) (.slice Ao136 t498.length co136)) (fun _ hk => trivial)⟩, ⟨by refine pr ?_; exact Kd.R_mono (Kd.R_far (p := ⟨gb474, 2, none⟩) (Kd.R_far (p := ⟨gb474, 1, none⟩) (Kd.R_far (p := ⟨gb474, 0, none⟩) (Kd.R_types HO_7.out BK474.out (by decide)) (fun _ hk => hk.2) (.int .u64 t496)) (fun _ hk => hk.2) (.int .u64 t497)) (fun _ hk => hk.2) (.slice Ao136 t498.length co136)) (fun _ hk => trivial)⟩, ⟨by refine pv ?_; exact Kd.V_mono (Kd.V_far (p := ⟨gb474, 2, none⟩) (Kd.V_far (p := ⟨gb474, 1, none⟩) (Kd.V_far (p := ⟨gb474, 0, none⟩) (Kd.V_mono HO500.out (fun k_ hk => (⟨hk, hk.1.2.2.2.1⟩ : _ ∧ k_ ≠ gb474))) (fun _ hk => hk.2) (.int .u64 t496)) (fun _ hk => hk.2) (.int .u64 t497)) (fun _ hk => hk.2) (.slice Ao136 t498.length co136)) (fun _ hk => ⟨hk.1.1.1, ⟨hk.1.2, ⟨hk.1.1.2.2.1, ⟨hk.1.1.2.2.2.1, hk.1.1.2.2.2.2.1⟩⟩⟩⟩)⟩, ⟨by refine pk ?_; refine blk_far ?_ NB468_474.out _; refine pk ?_; refine blk_far ?_ NB468_474.out _; refine pk ?_; refine blk_far ?_ NB468_474.out _; refine pk ?_; exact BK468.out⟩, ⟨by refine pk ?_; refine blk_put (cs := #[.int .u64 t496, .int .u64 t497, .slice Ao129 x475002_1.length co129]) ?_ 2 _ rfl; refine pk ?_; refine blk_put (cs := #[.int .u64 t496, .int .u64 x475001_1, .slice Ao129 x475002_1.length co129]) ?_ 1 _ rfl; refine pk ?_; refine blk_put (cs := #[.int .u64 x475000_1, .int .u64 x475001_1, .slice Ao129 x475002_1.length co129]) ?_ 0 _ rfl; refine pk ?_; exact BK474.out⟩, ⟨by refine pk ?_; refine blk_far ?_ NB476_474.out _; refine pk ?_; refine blk_far ?_ NB476_474.out _; refine pk ?_; refine blk_far ?_ NB476_474.out _; refine pk ?_; exact BK476.out⟩, ⟨pb HB⟩⟩
                   ·rw [if_neg c122] at H
                    exact absurd H (by simp)
                  ·rw [if_neg c121] at H
                   exact absurd H (by simp)
                 ·rw [if_neg c120] at H
                  have c120b0 : decide (0 ≤ x10_4) = false := decide_eq_false c120
                  clear c120
                  obtain ⟨y504, hy504⟩ : ∃ y_ : List ByteArray, y_ = (([((rd_T56 l1 x8_1).f1)] : List ByteArray)) := ⟨_, rfl⟩
                  replace H : (if x6_1.length + y504.length < 8796093022208 then ((some (([((rd_T56 l1 x8_1).f2)] : List Int) : List Int)).bind fun y510 => (if x7_1.length + y510.length < 17592186044416 then (l12_IndexKeeps.j4 k4 l1 (x6_1 ++ y504) (x7_1 ++ y510) x8_1 t496 t497 t498) else (none))) else (none)) = some r := by first | (rw [hy504]; with_reducible exact H) | (have H2_ := (Option.bind_some _ _).symm.trans H; rw [hy504]; with_reducible exact H2_) | (have H2_ := (Option.bind_some _ _).symm.trans H; with_reducible exact H2_) | with_reducible exact H | (rw [hy504]; exact H) | exact H
                  have Ny504 := am hy504
                  clear hy504
                  by_cases c143 : x6_1.length + y504.length < 8796093022208
                  ·rw [if_pos c143] at H
                   have LMc143 := am c143
                   clear c143
                   obtain ⟨y507, hy507⟩ : ∃ y_ : List ByteArray, y_ = (x6_1 ++ y504) := ⟨_, rfl⟩
                   replace H : ((some (([((rd_T56 l1 x8_1).f2)] : List Int) : List Int)).bind fun y510 => (if x7_1.length + y510.length < 17592186044416 then (l12_IndexKeeps.j4 k4 l1 y507 (x7_1 ++ y510) x8_1 t496 t497 t498) else (none))) = some r := by first | (rw [hy507]; with_reducible exact H) | (have H2_ := (Option.bind_some _ _).symm.trans H; rw [hy507]; with_reducible exact H2_) | (have H2_ := (Option.bind_some _ _).symm.trans H; with_reducible exact H2_) | with_reducible exact H | (rw [hy507]; exact H) | exact H
                   have Ny507 := am hy507
                   clear hy507
                   obtain ⟨y510, hy510⟩ : ∃ y_ : List Int, y_ = (([((rd_T56 l1 x8_1).f2)] : List Int)) := ⟨_, rfl⟩
                   replace H : (if x7_1.length + y510.length < 17592186044416 then (l12_IndexKeeps.j4 k4 l1 y507 (x7_1 ++ y510) x8_1 t496 t497 t498) else (none)) = some r := by first | (rw [hy510]; with_reducible exact H) | (have H2_ := (Option.bind_some _ _).symm.trans H; rw [hy510]; with_reducible exact H2_) | (have H2_ := (Option.bind_some _ _).symm.trans H; with_reducible exact H2_) | with_reducible exact H | (rw [hy510]; exact H) | exact H
                   have Ny510 := am hy510
                   clear hy510
                   by_cases c144 : x7_1.length + y510.length < 17592186044416
                   ·rw [if_pos c144] at H
                    have LMc144 := am c144
                    clear c144
                    obtain ⟨y513, hy513⟩ : ∃ y_ : List Int, y_ = (x7_1 ++ y510) := ⟨_, rfl⟩
                    replace H : (l12_IndexKeeps.j4 k4 l1 y507 y513 x8_1 t496 t497 t498) = some r := by first | (rw [hy513]; with_reducible exact H) | (have H2_ := (Option.bind_some _ _).symm.trans H; rw [hy513]; with_reducible exact H2_) | (have H2_ := (Option.bind_some _ _).symm.trans H; with_reducible exact H2_) | with_reducible exact H | (rw [hy513]; exact H) | exact H
                    have Ny513 := am hy513
                    clear hy513
                    have H' := am H
                    clear H
                    have hnb145 := NB474_468.out
                    have hnc145 := NB468_474.out
                    have hnb146 := NB474_476.out
                    have hnc146 := NB476_474.out
                    have hcz147_0 := ce BK474 0
                    have hcz147_1 := ce BK474 1
                    have hcz147_2 := ce BK474 2
                    have hfz147_0 := fz BK474 0
                    have hfz147_1 := fz BK474 1
                    have hfz147_2 := fz BK474 2
                    have hnb148 := NB476_468.out
                    have hnc148 := NB468_476.out
                    have hcz149_0 : wr.cell? ⟨gb476, 0, none⟩ = some (.bool ((rd_T56 l1 x8_1).f0)) := ce BK476 0
                    have hcz149_1 : wr.cell? ⟨gb476, 1, none⟩ = some (.string ((rd_T56 l1 x8_1).f1)) := ce BK476 1
                    have hcz149_2 : wr.cell? ⟨gb476, 2, none⟩ = some (.int .i64 ((rd_T56 l1 x8_1).f2)) := ce BK476 2
                    have hfz149_0 := fz BK476 0
                    have hfz149_1 := fz BK476 1
                    have hfz149_2 := fz BK476 2
                    obtain ⟨Ao150, co150, eo150⟩ := Kd.V_slice HO_475002.out
                    subst eo150
                    try go_wp2_with (first | ((with_reducible refine gate_callee (f := 13) rfl ?_); refine gl (some 116) Try.func13 #[.agg #[.int .u64 x475000_1, .int .u64 x475001_1, .slice Ao150 x475002_1.length co150], .string ((rd_T56 l1 x8_1).f1), .int .i64 ((rd_T56 l1 x8_1).f2)] ?_; (with_reducible refine (index_Put.calls k4 x475000_1 x475001_1 (fun k_ => (some k_ ≠ (.slice Ao35 x6_1.length co35 : Value).ownBlock ∧ (some k_ ≠ (u7 : Value).ownBlock ∧ (some k_ ≠ (.slice Ao35 x6_1.length co35 : Value).ownBlock ∧ (k_ ≠ gb468 ∧ (k_ ≠ gb474 ∧ k_ ≠ gb476)))))) _ _ x475002_1 ((rd_T56 l1 x8_1).f1) ((rd_T56 l1 x8_1).f2) t496 t497 t498 t501 _ ?side1 A118.out).mono ?_); (case side1 => exact HO_475002.out); rintro e w151 ⟨v499, rfl, ho0, hb⟩; refine ⟨_, rfl, ?_⟩; have n0_ := am (Kd.R_below (pr HO_6.out) hb); have n1_ := am (Kd.R_below (pr HO_7.out) hb); have n2_ := am (Kd.R_below (pr HO_52.out) hb); have n3_ := am (Kd.V_below (pv HO_475002.out) hb); have n4_ := am (Kd.V_lower (Kd.V_mono (ok' := fun k_ => some k_ ≠ (.slice Ao35 x6_1.length co35 : Value).ownBlock ∧ some k_ ≠ (u7 : Value).ownBlock ∧ some k_ ≠ (.slice Ao35 x6_1.length co35 : Value).ownBlock ∧ k_ ≠ gb468 ∧ k_ ≠ gb474 ∧ k_ ≠ gb476) ho0 (fun k_ hk_ => ⟨Or.elim hk_ (fun hs_ => hs_.1) (fun hn_ => (Kd.fresh' (Kd.R_lt (pr HO_6.out)) k_ hn_)), Or.elim hk_ (fun hs_ => hs_.2.1) (fun hn_ => (Kd.fresh' (Kd.R_lt (pr HO_7.out)) k_ hn_)), Or.elim hk_ (fun hs_ => hs_.2.2.1) (fun hn_ => (Kd.fresh' (Kd.R_lt (pr HO_52.out)) k_ hn_)), Or.elim hk_ (fun hs_ => hs_.2.2.2.1) (fun hn_ => (Kd.freshB (g := gb468) (o := .cells #[.int .u64 a0_0, .int .u64 a0_1] 24 (0, 0)) (pk BK468.out) k_ hn_)), Or.elim hk_ (fun hs_ => hs_.2.2.2.2.1) (fun hn_ => (Kd.freshB (g := gb474) (o := .cells #[.int .u64 x475000_1, .int .u64 x475001_1, .slice Ao150 x475002_1.length co150] 27 (0, 0)) (pk BK474.out) k_ hn_)), Or.elim hk_ (fun hs_ => hs_.2.2.2.2.2) (fun hn_ => (Kd.freshB (g := gb476) (o := .cells #[.bool ((rd_T56 l1 x8_1).f0), .string ((rd_T56 l1 x8_1).f1), .int .i64 ((rd_T56 l1 x8_1).f2)] 56 (0, 0)) (pk BK476.out) k_ hn_))⟩)) (below_size (pb HB))); have n5_ := am (blk_below (pk BK468.out) hb); have n6_ := am (blk_below (pk BK474.out) hb); have n7_ := am (blk_below (pk BK476.out) hb); have n8_ := am (below_step (pb HB) hb); clear HO_6; clear HO_7; clear HO_52; clear HO_475002; clear BK468; clear BK474; clear BK476; clear HB; have HO_6 := n0_; have HO_7 := n1_; have HO_52 := n2_; have HO_475002 := n3_; have HO500 := n4_; have BK468 := n5_; have BK474 := n6_; have BK476 := n7_; have HB := n8_; clear n0_ n1_ n2_ n3_ n4_ n5_ n6_ n7_ n8_; (try clear hb); (try clear hb2); (try clear hk); (try clear hi); (try clear ho0)) | ((with_reducible refine gate_dst (N := 15) rfl ?_); (try (refine gate_guard (by rfl) ?_; dsimp only)); refine be 15 #[.int .u64 0, .int .u64 0, .slice none 0 0] 27 ?_; intro gb502 hg w152 hbox hb; have n0_ := am (Kd.R_below (pr HO_6.out) hb); have n1_ := am (Kd.R_below (pr HO_7.out) hb); have n2_ := am (Kd.R_below (pr HO_52.out) hb); have n3_ := am (Kd.V_below (Kd.V_elderB (pv HO_475002.out) gb502 (Nat.le_of_eq hg.symm)) hb); have n4_ := am (Kd.V_below (Kd.V_elderB (pv HO500.out) gb502 (Nat.le_of_eq hg.symm)) hb); have n5_ := am (blk_below (pk BK468.out) hb); have n6_ := am (blk_below (pk BK474.out) hb); have n7_ := am (blk_below (pk BK476.out) hb); have n8_ := am (below_step (pb HB) hb); have n9_ := am (hbox); have n10_ := am ((pg hg HB : w.heap.size ≤ gb502)); have n11_ := am ((pg hg HB : w.heap.size ≤ gb502)); have n12_ := am ((pl hg (pk BK468.out) : gb468 ≠ gb502)); have n13_ := am ((pl' hg (pk BK468.out) : gb502 ≠ gb468)); have n14_ := am ((pl hg (pk BK474.out) : gb474 ≠ gb502)); have n15_ := am ((pl' hg (pk BK474.out) : gb502 ≠ gb474)); have n16_ := am ((pl hg (pk BK476.out) : gb476 ≠ gb502)); have n17_ := am ((pl' hg (pk BK476.out) : gb502 ≠ gb476)); clear HO_6; clear HO_7; clear HO_52; clear HO_475002; clear HO500; clear BK468; clear BK474; clear BK476; clear HB; have HO_6 := n0_; have HO_7 := n1_; have HO_52 := n2_; have HO_475002 := n3_; have HO500 := n4_; have BK468 := n5_; have BK474 := n6_; have BK476 := n7_; have HB := n8_; have BK502 := n9_; have GW502 := n10_; have GE502 := n11_; have NB468_502 := n12_; have NB502_468 := n13_; have NB474_502 := n14_; have NB502_474 := n15_; have NB476_502 := n16_; have NB502_476 := n17_; clear n0_ n1_ n2_ n3_ n4_ n5_ n6_ n7_ n8_ n9_ n10_ n11_ n12_ n13_ n14_ n15_ n16_ n17_; clear hb hbox hg; have hnb153 := NB502_468.out; have hnc153 := NB468_502.out; have hnb154 := NB502_474.out; have hnc154 := NB474_502.out; have hnb155 := NB502_476.out; have hnc155 := NB476_502.out; have hcz156_0 := ce BK502 0; have hcz156_1 := ce BK502 1; have hcz156_2 := ce BK502 2; have hfz156_0 := fz BK502 0; have hfz156_1 := fz BK502 1; have hfz156_2 := fz BK502 2; obtain ⟨Ao157, co157, eo157⟩ := Kd.V_slice HO500.out; subst eo157; obtain ⟨Ao158, co158, eo158⟩ := Kd.R_slice HO_7.out; subst eo158))
                    have n0_ : Aside0 (Kd.R Kd.string 9 (((w152.setCell ⟨gb502, 0, none⟩ (.int .u64 t496)).setCell ⟨gb502, 1, none⟩ (.int .u64 t497)).setCell ⟨gb502, 2, none⟩ (.slice Ao157 t498.length co157)) w.heap.size (fun _ => True) (.slice Ao35 x6_1.length co35) x6_1) := ⟨by refine pr ?_; exact Kd.R_mono (Kd.R_far (p := ⟨gb502, 2, none⟩) (Kd.R_far (p := ⟨gb502, 1, none⟩) (Kd.R_far (p := ⟨gb502, 0, none⟩) (Kd.R_types HO_6.out BK502.out (by decide)) (fun _ hk => hk.2) (.int .u64 t496)) (fun _ hk => hk.2) (.int .u64 t497)) (fun _ hk => hk.2) (.slice Ao157 t498.length co157)) (fun _ hk => trivial)⟩
                    have n1_ : Aside0 (Kd.R (Kd.int .i64) 3 (((w152.setCell ⟨gb502, 0, none⟩ (.int .u64 t496)).setCell ⟨gb502, 1, none⟩ (.int .u64 t497)).setCell ⟨gb502, 2, none⟩ (.slice Ao157 t498.length co157)) w.heap.size (fun _ => True) (.slice Ao158 x7_1.length co158) x7_1) := ⟨by refine pr ?_; exact Kd.R_mono (Kd.R_far (p := ⟨gb502, 2, none⟩) (Kd.R_far (p := ⟨gb502, 1, none⟩) (Kd.R_far (p := ⟨gb502, 0, none⟩) (Kd.R_types HO_7.out BK502.out (by decide)) (fun _ hk => hk.2) (.int .u64 t496)) (fun _ hk => hk.2) (.int .u64 t497)) (fun _ hk => hk.2) (.slice Ao157 t498.length co157)) (fun _ hk => trivial)⟩
                    have n2_ : Aside0 (Kd.R Kd.string 9 (((w152.setCell ⟨gb502, 0, none⟩ (.int .u64 t496)).setCell ⟨gb502, 1, none⟩ (.int .u64 t497)).setCell ⟨gb502, 2, none⟩ (.slice Ao157 t498.length co157)) w.heap.size (fun _ => True) (.slice Ao35 x6_1.length co35) x6_1) := ⟨by refine pr ?_; exact Kd.R_mono (Kd.R_far (p := ⟨gb502, 2, none⟩) (Kd.R_far (p := ⟨gb502, 1, none⟩) (Kd.R_far (p := ⟨gb502, 0, none⟩) (Kd.R_types HO_52.out BK502.out (by decide)) (fun _ hk => hk.2) (.int .u64 t496)) (fun _ hk => hk.2) (.int .u64 t497)) (fun _ hk => hk.2) (.slice Ao157 t498.length co157)) (fun _ hk => trivial)⟩
                    have n3_ : Aside0 (Kd.V k60 60 (((w152.setCell ⟨gb502, 0, none⟩ (.int .u64 t496)).setCell ⟨gb502, 1, none⟩ (.int .u64 t497)).setCell ⟨gb502, 2, none⟩ (.slice Ao157 t498.length co157)) w.heap.size (fun k_ => some k_ ≠ (.slice Ao35 x6_1.length co35 : Value).ownBlock ∧ some k_ ≠ (.slice Ao158 x7_1.length co158 : Value).ownBlock ∧ some k_ ≠ (.slice Ao35 x6_1.length co35 : Value).ownBlock ∧ k_ ≠ gb468 ∧ k_ ≠ gb474 ∧ k_ ≠ gb476 ∧ k_ ≠ gb502) (.slice Ao150 x475002_1.length co150) x475002_1) := ⟨by refine pv ?_; exact Kd.V_mono (Kd.V_far (p := ⟨gb502, 2, none⟩) (Kd.V_far (p := ⟨gb502, 1, none⟩) (Kd.V_far (p := ⟨gb502, 0, none⟩) (Kd.V_mono HO_475002.out (fun k_ hk => (⟨hk, hk.2⟩ : _ ∧ k_ ≠ gb502))) (fun _ hk => hk.2) (.int .u64 t496)) (fun _ hk => hk.2) (.int .u64 t497)) (fun _ hk => hk.2) (.slice Ao157 t498.length co157)) (fun _ hk => ⟨hk.1.1.1, ⟨hk.1.1.2.1, ⟨hk.1.1.2.2.1, ⟨hk.1.1.2.2.2.1, ⟨hk.1.1.2.2.2.2.1, ⟨hk.1.1.2.2.2.2.2, hk.1.2⟩⟩⟩⟩⟩⟩)⟩
                    have n4_ : Aside0 (Kd.V k60 60 (((w152.setCell ⟨gb502, 0, none⟩ (.int .u64 t496)).setCell ⟨gb502, 1, none⟩ (.int .u64 t497)).setCell ⟨gb502, 2, none⟩ (.slice Ao157 t498.length co157)) w.heap.size (fun k_ => some k_ ≠ (.slice Ao35 x6_1.length co35 : Value).ownBlock ∧ some k_ ≠ (.slice Ao158 x7_1.length co158 : Value).ownBlock ∧ some k_ ≠ (.slice Ao35 x6_1.length co35 : Value).ownBlock ∧ k_ ≠ gb468 ∧ k_ ≠ gb474 ∧ k_ ≠ gb476 ∧ k_ ≠ gb502) (.slice Ao157 t498.length co157) t498) := ⟨by refine pv ?_; exact Kd.V_mono (Kd.V_far (p := ⟨gb502, 2, none⟩) (Kd.V_far (p := ⟨gb502, 1, none⟩) (Kd.V_far (p := ⟨gb502, 0, none⟩) (Kd.V_mono HO500.out (fun k_ hk => (⟨hk, hk.2⟩ : _ ∧ k_ ≠ gb502))) (fun _ hk => hk.2) (.int .u64 t496)) (fun _ hk => hk.2) (.int .u64 t497)) (fun _ hk => hk.2) (.slice Ao157 t498.length co157)) (fun _ hk => ⟨hk.1.1.1, ⟨hk.1.1.2.1, ⟨hk.1.1.2.2.1, ⟨hk.1.1.2.2.2.1, ⟨hk.1.1.2.2.2.2.1, ⟨hk.1.1.2.2.2.2.2, hk.1.2⟩⟩⟩⟩⟩⟩)⟩
                    have n5_ : Aside0 ((((w152.setCell ⟨gb502, 0, none⟩ (.int .u64 t496)).setCell ⟨gb502, 1, none⟩ (.int .u64 t497)).setCell ⟨gb502, 2, none⟩ (.slice Ao157 t498.length co157)).heap[gb468]? = some (.cells #[.int .u64 a0_0, .int .u64 a0_1] 24 (0, 0))) := ⟨by refine pk ?_; refine blk_far ?_ NB468_502.out _; refine pk ?_; refine blk_far ?_ NB468_502.out _; refine pk ?_; refine blk_far ?_ NB468_502.out _; refine pk ?_; exact BK468.out⟩
                    have n6_ : Aside0 ((((w152.setCell ⟨gb502, 0, none⟩ (.int .u64 t496)).setCell ⟨gb502, 1, none⟩ (.int .u64 t497)).setCell ⟨gb502, 2, none⟩ (.slice Ao157 t498.length co157)).heap[gb474]? = some (.cells #[.int .u64 x475000_1, .int .u64 x475001_1, .slice Ao150 x475002_1.length co150] 27 (0, 0))) := ⟨by refine pk ?_; refine blk_far ?_ NB474_502.out _; refine pk ?_; refine blk_far ?_ NB474_502.out _; refine pk ?_; refine blk_far ?_ NB474_502.out _; refine pk ?_; exact BK474.out⟩
                    have n7_ : Aside0 ((((w152.setCell ⟨gb502, 0, none⟩ (.int .u64 t496)).setCell ⟨gb502, 1, none⟩ (.int .u64 t497)).setCell ⟨gb502, 2, none⟩ (.slice Ao157 t498.length co157)).heap[gb476]? = some (.cells #[.bool ((rd_T56 l1 x8_1).f0), .string ((rd_T56 l1 x8_1).f1), .int .i64 ((rd_T56 l1 x8_1).f2)] 56 (0, 0))) := ⟨by refine pk ?_; refine blk_far ?_ NB476_502.out _; refine pk ?_; refine blk_far ?_ NB476_502.out _; refine pk ?_; refine blk_far ?_ NB476_502.out _; refine pk ?_; exact BK476.out⟩
                    have n8_ : Aside0 ((((w152.setCell ⟨gb502, 0, none⟩ (.int .u64 t496)).setCell ⟨gb502, 1, none⟩ (.int .u64 t497)).setCell ⟨gb502, 2, none⟩ (.slice Ao157 t498.length co157)).heap[gb502]? = some (.cells #[.int .u64 t496, .int .u64 t497, .slice Ao157 t498.length co157] 27 (0, 0))) := ⟨by refine pk ?_; refine blk_put (cs := #[.int .u64 t496, .int .u64 t497, .slice none 0 0]) ?_ 2 _ rfl; refine pk ?_; refine blk_put (cs := #[.int .u64 t496, .int .u64 0, .slice none 0 0]) ?_ 1 _ rfl; refine pk ?_; refine blk_put (cs := #[.int .u64 0, .int .u64 0, .slice none 0 0]) ?_ 0 _ rfl; refine pk ?_; exact BK502.out⟩
                    have n9_ : Aside0 (Below w.heap.size w (((w152.setCell ⟨gb502, 0, none⟩ (.int .u64 t496)).setCell ⟨gb502, 1, none⟩ (.int .u64 t497)).setCell ⟨gb502, 2, none⟩ (.slice Ao157 t498.length co157))) := ⟨pb HB⟩
                    (try clear HO_6)
                    (try clear HO_7)
                    (try clear HO_52)
                    (try clear HO_475002)
                    (try clear HO500)
                    (try clear BK468)
                    (try clear BK474)
                    (try clear BK476)
                    (try clear BK502)
                    (try clear HB)
                    generalize (((w152.setCell ⟨gb502, 0, none⟩ (.int .u64 t496)).setCell ⟨gb502, 1, none⟩ (.int .u64 t497)).setCell ⟨gb502, 2, none⟩ (.slice Ao157 t498.length co157)) = w159 at n0_ n1_ n2_ n3_ n4_ n5_ n6_ n7_ n8_ n9_ ⊢
                    have HO_6 := n0_
                    have HO_7 := n1_
                    have HO_52 := n2_
                    have HO_475002 := n3_
                    have HO500 := n4_
                    have BK468 := n5_
                    have BK474 := n6_
                    have BK476 := n7_
                    have BK502 := n8_
                    have HB := n9_
                    clear n0_ n1_ n2_ n3_ n4_ n5_ n6_ n7_ n8_ n9_
                    replace HO_6 := am (Kd.R_drew HO_6.out)
                    replace HO_7 := am (Kd.R_drew HO_7.out)
                    replace HO_52 := am (Kd.R_drew HO_52.out)
                    replace HO_475002 := am (Kd.V_drew HO_475002.out)
                    replace HO500 := am (Kd.V_drew HO500.out)
                    replace BK468 := am (blk_drew BK468.out)
                    replace BK474 := am (blk_drew BK474.out)
                    replace BK476 := am (blk_drew BK476.out)
                    replace BK502 := am (blk_drew BK502.out)
                    replace HB := am (below_drew1 HB.out)
                    refine start_ (n := 12) (S := fun w' => w'.cell? ⟨gb476, 0, none⟩ = some (.bool ((rd_T56 l1 x8_1).f0)) ∧ w'.cell? ⟨gb476, 1, none⟩ = some (.string ((rd_T56 l1 x8_1).f1)) ∧ w'.cell? ⟨gb476, 2, none⟩ = some (.int .i64 ((rd_T56 l1 x8_1).f2))) (ds := []) #[false, false, false, false, false, false, false, false, false, false, false, false] (by kernel_rfl) rfl rfl ⟨ce BK476 0, ce BK476 1, ce BK476 2⟩ (fun hHeld => ?_); refine with_tabW l12_IndexKeeps.tab30 l12_IndexKeeps.bits30 (fun HT_ HW_ => ?_)
                    generalize w159.drew = w160 at HO_6 HO_7 HO_52 HO_475002 HO500 BK468 BK474 BK476 BK502 HB hHeld ⊢
                    refine pu 0 ?_
                    refine pu 1 ?_
                    refine pu 5 ?_
                    refine pu 6 ?_
                    refine ta 2 hHeld ?_
                    refine ta 7 hHeld ?_
                    refine join_ (σ := Value × Value × Value) 3 #[true, true, true, true, true, true, true, true, true, false, false, false] (fun s_ => [(131, s_.1), (132, s_.2.1), (136, s_.2.2)]) (fun s_ w' => (w'.cell? ⟨gb476, 0, none⟩ = some (.bool ((rd_T56 l1 x8_1).f0)) ∧ w'.cell? ⟨gb476, 1, none⟩ = some (.string ((rd_T56 l1 x8_1).f1)) ∧ w'.cell? ⟨gb476, 2, none⟩ = some (.int .i64 ((rd_T56 l1 x8_1).f2))) ∧ (Kd.V k60 60 w' w.heap.size (fun k_ => some k_ ≠ (s_.1 : Value).ownBlock ∧ some k_ ≠ (s_.2.1 : Value).ownBlock ∧ some k_ ≠ (s_.2.2 : Value).ownBlock ∧ some k_ ≠ (.slice Ao158 x7_1.length co158 : Value).ownBlock ∧ k_ ≠ gb468 ∧ k_ ≠ gb474 ∧ k_ ≠ gb476 ∧ k_ ≠ gb502) (.slice Ao157 t498.length co157) t498) ∧ (Kd.R Kd.string 9 w' w.heap.size (fun k_ => some k_ ≠ (s_.2.1 : Value).ownBlock) s_.1 y504) ∧ (Kd.R Kd.string 9 w' w.heap.size (fun k_ => some k_ ≠ (s_.1 : Value).ownBlock) s_.2.1 y507) ∧ (Kd.R (Kd.int .i64) 3 w' w.heap.size (fun k_ => some k_ ≠ (.slice Ao158 x7_1.length co158 : Value).ownBlock) s_.2.2 y510) ∧ (Kd.V k60 60 w' w.heap.size (fun k_ => some k_ ≠ (s_.1 : Value).ownBlock ∧ some k_ ≠ (s_.2.1 : Value).ownBlock ∧ some k_ ≠ (s_.2.2 : Value).ownBlock ∧ some k_ ≠ (.slice Ao158 x7_1.length co158 : Value).ownBlock ∧ k_ ≠ gb468 ∧ k_ ≠ gb474 ∧ k_ ≠ gb476 ∧ k_ ≠ gb502) (.slice Ao150 x475002_1.length co150) x475002_1) ∧ (Kd.R (Kd.int .i64) 3 w' w.heap.size (fun k_ => some k_ ≠ (s_.2.2 : Value).ownBlock) (.slice Ao158 x7_1.length co158) x7_1) ∧ (w'.heap[gb468]? = some (.cells #[.int .u64 a0_0, .int .u64 a0_1] 24 (0, 0))) ∧ (w'.heap[gb474]? = some (.cells #[.int .u64 x475000_1, .int .u64 x475001_1, .slice Ao150 x475002_1.length co150] 27 (0, 0))) ∧ (w'.heap[gb476]? = some (.cells #[.bool ((rd_T56 l1 x8_1).f0), .string ((rd_T56 l1 x8_1).f1), .int .i64 ((rd_T56 l1 x8_1).f2)] 56 (0, 0))) ∧ (w'.heap[gb502]? = some (.cells #[.int .u64 t496, .int .u64 t497, .slice Ao157 t498.length co157] 27 (0, 0))) ∧ (Below w.heap.size w w')) ?_ ?_
                    rotate_left
                    ·intro hCont
                     refine two_ (i := 3) (j := 8) (Ni := some 131) (Nj := some 136) #[true, true, true, true, false, true, true, true, false, false, false, false] #[true, true, true, false, false, true, true, true, true, false, false, false] rfl rfl rfl rfl (two_of HT_.out (by kernel_rfl)) (by decide) (by decide) (fun K hK => ?_) (fun K hK => ?_)
                     ·skip
                      refine Kd.R_lit_step Kd.string _ 9 ?hg (N := 131) ?hd (xs := ([((rd_T56 l1 x8_1).f1)] : List ByteArray)) (inner := [.string ((rd_T56 l1 x8_1).f1)]) (ok := fun _ => True) (okp := fun _ => True) ?hr ?hp (fun _ hk => hk) trivial (Below.refl _ _) (Nat.le_refl _) (by simp) ?_; (case hd => rfl); (case hg => rfl); (case hr => first | (go_simp; done) | (go_simp; rfl)); (case hp => exact (Reps.one (show Kd.M Kd.string _ _ _ ((rd_T56 l1 x8_1).f1) [.string ((rd_T56 l1 x8_1).f1)] from rfl) (Reps.none _ _)))
                      intro v505 w161 ho162 hb hg_ hnew_
                      clear hg_ hnew_
                      (first | rw [← Ny504.out] at ho162 | (simp only [Int.reduceToNat] at ho162; rw [← Ny504.out] at ho162))
                      have n0_ := am (Kd.R_elder' (pr HO_6.out) (Kd.R_base ho162) hb)
                      have n1_ := am (Kd.R_below (pr HO_7.out) hb)
                      have n2_ := am (Kd.R_elder' (pr HO_52.out) (Kd.R_base ho162) hb)
                      have n3_ := am (Kd.V_elder' (pv HO_475002.out) (Kd.R_base ho162) hb)
                      have n4_ := am (Kd.V_elder' (pv HO500.out) (Kd.R_base ho162) hb)
                      have n5_ := am (Kd.R_lower (Kd.R_new' (Kd.R_new' ho162 (Kd.R_lt (pr HO_6.out))) (Kd.R_lt (pr HO_52.out))) (below_size (pb HB)))
                      have n6_ := am (blk_below (pk BK468.out) hb)
                      have n7_ := am (blk_below (pk BK474.out) hb)
                      have n8_ := am (blk_below (pk BK476.out) hb)
                      have n9_ := am (blk_below (pk BK502.out) hb)
                      have n10_ := am (below_step (pb HB) hb)
                      clear HO_6 HO_7 HO_52 HO_475002 HO500 BK468 BK474 BK476 BK502 HB
                      have HO_6 := n0_
                      have HO_7 := n1_
                      have HO_52 := n2_
                      have HO_475002 := n3_
                      have HO500 := n4_
                      have HO506 := n5_
                      have BK468 := n6_
                      have BK474 := n7_
                      have BK476 := n8_
                      have BK502 := n9_
                      have HB := n10_
                      clear n0_ n1_ n2_ n3_ n4_ n5_ n6_ n7_ n8_ n9_ n10_ hb ho162
                      obtain ⟨Ao164, co164, eo164⟩ := Kd.R_slice HO506.out
                      (first | subst eo164 | (injection eo164 with f1_ f2_ f3_; have f4_ := f1_.symm; have f5_ := f3_.symm; clear f1_ f2_ f3_; subst f4_; subst f5_))
                      refine hK.out _ _ ⟨ce BK476 0, ce BK476 1, ce BK476 2⟩ (fun hHeld => ?_)
                      clear hK K
                      refine nm ?_
                      refine two_ (i := 4) (j := 8) (Ni := some 132) (Nj := some 136) #[true, true, true, true, true, true, true, true, false, false, false, false] #[true, true, true, true, false, true, true, true, true, false, false, false] rfl rfl rfl rfl (two_of HT_.out (by kernel_rfl)) (by decide) (by decide) (fun K hK => ?_) (fun K hK => ?_)
                      ·skip
                       refine Kd.R_append_rows_step Kd.string (w0 := w) w.heap.size (by rfl) (.tmp 128) (.tmp 131) 53 9 (.string ⟨#[]⟩) 16 rfl Try.underlying53 info9 rfl (by decide) (by omega) (.slice Ao35 x6_1.length co35) x6_1 y504 _ _ _ (fun k_ => some k_ ≠ (.slice Ao164 y504.length co164 : Value).ownBlock) (fun _ => False) rfl rfl ?aO ?aR (fun _ _ h => h) (fun _ h => h.elim) ?aF ?aB ?aS ?aL ?_
                       (case aR => repeat (first | exact (Kd.R_reads' HO506.out).2.2 | (with_reducible refine Kd.C_alloc ?_ _) | (with_reducible refine Kd.C_drewN ?_ _) | (with_reducible refine Kd.C_drew ?_)))
                       (case aB => exact (pb HB))
                       (case aF => exact (fun k_ hk => Kd.fresh' (Kd.R_lt (pr HO506.out)) k_ hk))
                       (case aO => exact (pr (Kd.R_mono HO_6.out (fun _ hk => hk.2))))
                       (case aS => exact (below_size (pb HB)))
                       (case aL => have := LMc143.out; omega)
                       intro v508 w163 ho hb hg hat
                       rw [← Ny507.out] at ho
                       have n0_ := am (Kd.R_over' (pr HO_7.out) (Kd.R_typed (pr HO_6.out)) (by decide) hg)
                       have n1_ := am (Kd.V_afterv (ok := (fun k_ => some k_ ≠ (.slice Ao158 x7_1.length co158 : Value).ownBlock ∧ some k_ ≠ (.slice Ao164 y504.length co164 : Value).ownBlock ∧ k_ ≠ gb468 ∧ k_ ≠ gb474 ∧ k_ ≠ gb476 ∧ k_ ≠ gb502)) (pv (Kd.V_mono HO_475002.out (fun _ hk => ⟨⟨hk.1.2.1, ⟨hk.2, ⟨hk.1.2.2.2.1, ⟨hk.1.2.2.2.2.1, ⟨hk.1.2.2.2.2.2.1, hk.1.2.2.2.2.2.2⟩⟩⟩⟩⟩, hk.1.1⟩))) hg hat)
                       have n2_ := am (blk_grown (g := gb468) (o := .cells #[.int .u64 a0_0, .int .u64 a0_1] 24 (0, 0)) (pk BK468.out) hg (Kd.R_ne HO_6.out BK468.out (by decide)))
                       have n3_ := am (blk_grown (g := gb474) (o := .cells #[.int .u64 x475000_1, .int .u64 x475001_1, .slice Ao150 x475002_1.length co150] 27 (0, 0)) (pk BK474.out) hg (Kd.R_ne HO_6.out BK474.out (by decide)))
                       have n4_ := am (blk_grown (g := gb476) (o := .cells #[.bool ((rd_T56 l1 x8_1).f0), .string ((rd_T56 l1 x8_1).f1), .int .i64 ((rd_T56 l1 x8_1).f2)] 56 (0, 0)) (pk BK476.out) hg (Kd.R_ne HO_6.out BK476.out (by decide)))
                       have n5_ := am (Kd.V_afterv (ok := (fun k_ => some k_ ≠ (.slice Ao158 x7_1.length co158 : Value).ownBlock ∧ some k_ ≠ (.slice Ao164 y504.length co164 : Value).ownBlock ∧ k_ ≠ gb468 ∧ k_ ≠ gb474 ∧ k_ ≠ gb476 ∧ k_ ≠ gb502)) (pv (Kd.V_mono HO500.out (fun _ hk => ⟨⟨hk.1.2.1, ⟨hk.2, ⟨hk.1.2.2.2.1, ⟨hk.1.2.2.2.2.1, ⟨hk.1.2.2.2.2.2.1, hk.1.2.2.2.2.2.2⟩⟩⟩⟩⟩, hk.1.1⟩))) hg hat)
                       have n6_ := am (blk_grown (g := gb502) (o := .cells #[.int .u64 t496, .int .u64 t497, .slice Ao157 t498.length co157] 27 (0, 0)) (pk BK502.out) hg (Kd.R_ne HO_6.out BK502.out (by decide)))
                       have n7_ := am (Kd.R_after (ok := (fun _ => True)) (pr (Kd.R_mono HO506.out (fun _ hk => ⟨trivial, hk.1.2⟩))) hg hat)
                       have n8_ := am (hb)
                       have n9_ := am (ho)
                       clear HO_7 HO_475002 BK468 BK474 BK476 HO500 BK502 HO506 HB HO_6
                       have HO_7 := n0_
                       have HO_475002 := n1_
                       have BK468 := n2_
                       have BK474 := n3_
                       have BK476 := n4_
                       have HO500 := n5_
                       have BK502 := n6_
                       have HO506 := n7_
                       have HB := n8_
                       have HO509 := n9_
                       clear n0_ n1_ n2_ n3_ n4_ n5_ n6_ n7_ n8_ n9_ ho hb hg hat
                       refine hK.out _ _ ⟨ce BK476 0, ce BK476 1, ce BK476 2⟩ (fun hHeld => ?_)
                       clear hK K
                       refine nm ?_
                       refine on1 8 (fun K hK => ?_)
                       refine Kd.R_lit_step (Kd.int .i64) _ 3 ?hg (N := 136) ?hd (xs := ([((rd_T56 l1 x8_1).f2)] : List Int)) (inner := [.int .i64 ((rd_T56 l1 x8_1).f2)]) (ok := fun _ => True) (okp := fun _ => True) ?hr ?hp (fun _ hk => hk) trivial (Below.refl _ _) (Nat.le_refl _) (by simp) ?_; (case hd => rfl); (case hg => rfl); (case hr => first | (go_simp; done) | (go_simp; rfl)); (case hp => exact (Reps.one (show Kd.M (Kd.int .i64) _ _ _ ((rd_T56 l1 x8_1).f2) [.int .i64 ((rd_T56 l1 x8_1).f2)] from rfl) (Reps.none _ _)))
                       intro v511 w165 ho166 hb hg_ hnew_
                       clear hg_ hnew_
                       (first | rw [← Ny510.out] at ho166 | (simp only [Int.reduceToNat] at ho166; rw [← Ny510.out] at ho166))
                       have n0_ := am (Kd.R_elder' (pr HO_7.out) (Kd.R_base ho166) hb)
                       have n1_ := am (Kd.V_elder' (pv HO_475002.out) (Kd.R_base ho166) hb)
                       have n2_ := am (Kd.V_elder' (pv HO500.out) (Kd.R_base ho166) hb)
                       have n3_ := am (Kd.R_below (pr HO506.out) hb)
                       have n4_ := am (Kd.R_below (pr HO509.out) hb)
                       have n5_ := am (Kd.R_lower (Kd.R_new' ho166 (Kd.R_lt (pr HO_7.out))) (below_size (pb HB)))
                       have n6_ := am (blk_below (pk BK468.out) hb)
                       have n7_ := am (blk_below (pk BK474.out) hb)
                       have n8_ := am (blk_below (pk BK476.out) hb)
                       have n9_ := am (blk_below (pk BK502.out) hb)
                       have n10_ := am (below_step (pb HB) hb)
                       clear HO_7 HO_475002 HO500 HO506 HO509 BK468 BK474 BK476 BK502 HB
                       have HO_7 := n0_
                       have HO_475002 := n1_
                       have HO500 := n2_
                       have HO506 := n3_
                       have HO509 := n4_
                       have HO512 := n5_
                       have BK468 := n6_
                       have BK474 := n7_
                       have BK476 := n8_
                       have BK502 := n9_
                       have HB := n10_
                       clear n0_ n1_ n2_ n3_ n4_ n5_ n6_ n7_ n8_ n9_ n10_ hb ho166
                       refine hK.out _ _ ⟨ce BK476 0, ce BK476 1, ce BK476 2⟩ (fun hHeld => ?_)
                       clear hK K
                       refine nm ?_
                       exact nj (hCont (.slice Ao164 y504.length co164, v508, v511) _ ⟨hHeld, (pv (Kd.V_mono HO500.out (fun _ hk => ⟨hk.1.1.2.1, ⟨hk.1.2, ⟨hk.2, ⟨hk.1.1.1, ⟨hk.1.1.2.2.1, ⟨hk.1.1.2.2.2.1, ⟨hk.1.1.2.2.2.2.1, hk.1.1.2.2.2.2.2⟩⟩⟩⟩⟩⟩⟩))), (pr (Kd.R_mono HO506.out (fun _ hk => hk.2))), (pr HO509.out), (pr (Kd.R_mono HO512.out (fun _ hk => hk.2))), (pv (Kd.V_mono HO_475002.out (fun _ hk => ⟨hk.1.1.2.1, ⟨hk.1.2, ⟨hk.2, ⟨hk.1.1.1, ⟨hk.1.1.2.2.1, ⟨hk.1.1.2.2.2.1, ⟨hk.1.1.2.2.2.2.1, hk.1.1.2.2.2.2.2⟩⟩⟩⟩⟩⟩⟩))), (pr (Kd.R_mono HO_7.out (fun _ hk => hk.2))), (pk BK468.out), (pk BK474.out), (pk BK476.out), (pk BK502.out), (pb HB)⟩)
                      ·skip
                       refine Kd.R_lit_step (Kd.int .i64) _ 3 ?hg (N := 136) ?hd (xs := ([((rd_T56 l1 x8_1).f2)] : List Int)) (inner := [.int .i64 ((rd_T56 l1 x8_1).f2)]) (ok := fun _ => True) (okp := fun _ => True) ?hr ?hp (fun _ hk => hk) trivial (Below.refl _ _) (Nat.le_refl _) (by simp) ?_; (case hd => rfl); (case hg => rfl); (case hr => first | (go_simp; done) | (go_simp; rfl)); (case hp => exact (Reps.one (show Kd.M (Kd.int .i64) _ _ _ ((rd_T56 l1 x8_1).f2) [.int .i64 ((rd_T56 l1 x8_1).f2)] from rfl) (Reps.none _ _)))
                       intro v511 w163 ho164 hb hg_ hnew_
                       clear hg_ hnew_
                       (first | rw [← Ny510.out] at ho164 | (simp only [Int.reduceToNat] at ho164; rw [← Ny510.out] at ho164))
                       have n0_ := am (Kd.R_below (pr HO_6.out) hb)
                       have n1_ := am (Kd.R_elder' (pr HO_7.out) (Kd.R_base ho164) hb)
                       have n2_ := am (Kd.R_below (pr HO_52.out) hb)
                       have n3_ := am (Kd.V_elder' (pv HO_475002.out) (Kd.R_base ho164) hb)
                       have n4_ := am (Kd.V_elder' (pv HO500.out) (Kd.R_base ho164) hb)
                       have n5_ := am (Kd.R_below (pr HO506.out) hb)
                       have n6_ := am (Kd.R_lower (Kd.R_new' ho164 (Kd.R_lt (pr HO_7.out))) (below_size (pb HB)))
                       have n7_ := am (blk_below (pk BK468.out) hb)
                       have n8_ := am (blk_below (pk BK474.out) hb)
                       have n9_ := am (blk_below (pk BK476.out) hb)
                       have n10_ := am (blk_below (pk BK502.out) hb)
                       have n11_ := am (below_step (pb HB) hb)
                       clear HO_6 HO_7 HO_52 HO_475002 HO500 HO506 BK468 BK474 BK476 BK502 HB
                       have HO_6 := n0_
                       have HO_7 := n1_
                       have HO_52 := n2_
                       have HO_475002 := n3_
                       have HO500 := n4_
                       have HO506 := n5_
                       have HO512 := n6_
                       have BK468 := n7_
                       have BK474 := n8_
                       have BK476 := n9_
                       have BK502 := n10_
                       have HB := n11_
                       clear n0_ n1_ n2_ n3_ n4_ n5_ n6_ n7_ n8_ n9_ n10_ n11_ hb ho164
                       obtain ⟨Ao166, co166, eo166⟩ := Kd.R_slice HO506.out
                       (first | subst eo166 | (injection eo166 with f1_ f2_ f3_; have f4_ := f1_.symm; have f5_ := f3_.symm; clear f1_ f2_ f3_; subst f4_; subst f5_))
                       refine hK.out _ _ ⟨ce BK476 0, ce BK476 1, ce BK476 2⟩ (fun hHeld => ?_)
                       clear hK K
                       refine nm ?_
                       refine on1 4 (fun K hK => ?_)
                       refine Kd.R_append_rows_step Kd.string (w0 := w) w.heap.size (by rfl) (.tmp 128) (.tmp 131) 53 9 (.string ⟨#[]⟩) 16 rfl Try.underlying53 info9 rfl (by decide) (by omega) (.slice Ao35 x6_1.length co35) x6_1 y504 _ _ _ (fun k_ => some k_ ≠ (.slice Ao166 y504.length co166 : Value).ownBlock) (fun _ => False) rfl rfl ?aO ?aR (fun _ _ h => h) (fun _ h => h.elim) ?aF ?aB ?aS ?aL ?_
                       (case aR => repeat (first | exact (Kd.R_reads' HO506.out).2.2 | (with_reducible refine Kd.C_alloc ?_ _) | (with_reducible refine Kd.C_drewN ?_ _) | (with_reducible refine Kd.C_drew ?_)))
                       (case aB => exact (pb HB))
                       (case aF => exact (fun k_ hk => Kd.fresh' (Kd.R_lt (pr HO506.out)) k_ hk))
                       (case aO => exact (pr (Kd.R_mono HO_6.out (fun _ hk => hk.2))))
                       (case aS => exact (below_size (pb HB)))
                       (case aL => have := LMc143.out; omega)
                       intro v508 w165 ho hb hg hat
                       rw [← Ny507.out] at ho
                       have n0_ := am (Kd.R_over' (pr HO_7.out) (Kd.R_typed (pr HO_6.out)) (by decide) hg)
                       have n1_ := am (Kd.V_afterv (ok := (fun k_ => some k_ ≠ (.slice Ao158 x7_1.length co158 : Value).ownBlock ∧ some k_ ≠ (.slice Ao166 y504.length co166 : Value).ownBlock ∧ some k_ ≠ (v511 : Value).ownBlock ∧ k_ ≠ gb468 ∧ k_ ≠ gb474 ∧ k_ ≠ gb476 ∧ k_ ≠ gb502)) (pv (Kd.V_mono HO_475002.out (fun _ hk => ⟨⟨hk.1.1.2.1, ⟨hk.1.2, ⟨hk.2, ⟨hk.1.1.2.2.2.1, ⟨hk.1.1.2.2.2.2.1, ⟨hk.1.1.2.2.2.2.2.1, hk.1.1.2.2.2.2.2.2⟩⟩⟩⟩⟩⟩, hk.1.1.1⟩))) hg hat)
                       have n2_ := am (blk_grown (g := gb468) (o := .cells #[.int .u64 a0_0, .int .u64 a0_1] 24 (0, 0)) (pk BK468.out) hg (Kd.R_ne HO_6.out BK468.out (by decide)))
                       have n3_ := am (blk_grown (g := gb474) (o := .cells #[.int .u64 x475000_1, .int .u64 x475001_1, .slice Ao150 x475002_1.length co150] 27 (0, 0)) (pk BK474.out) hg (Kd.R_ne HO_6.out BK474.out (by decide)))
                       have n4_ := am (blk_grown (g := gb476) (o := .cells #[.bool ((rd_T56 l1 x8_1).f0), .string ((rd_T56 l1 x8_1).f1), .int .i64 ((rd_T56 l1 x8_1).f2)] 56 (0, 0)) (pk BK476.out) hg (Kd.R_ne HO_6.out BK476.out (by decide)))
                       have n5_ := am (Kd.V_afterv (ok := (fun k_ => some k_ ≠ (.slice Ao158 x7_1.length co158 : Value).ownBlock ∧ some k_ ≠ (.slice Ao166 y504.length co166 : Value).ownBlock ∧ some k_ ≠ (v511 : Value).ownBlock ∧ k_ ≠ gb468 ∧ k_ ≠ gb474 ∧ k_ ≠ gb476 ∧ k_ ≠ gb502)) (pv (Kd.V_mono HO500.out (fun _ hk => ⟨⟨hk.1.1.2.1, ⟨hk.1.2, ⟨hk.2, ⟨hk.1.1.2.2.2.1, ⟨hk.1.1.2.2.2.2.1, ⟨hk.1.1.2.2.2.2.2.1, hk.1.1.2.2.2.2.2.2⟩⟩⟩⟩⟩⟩, hk.1.1.1⟩))) hg hat)
                       have n6_ := am (blk_grown (g := gb502) (o := .cells #[.int .u64 t496, .int .u64 t497, .slice Ao157 t498.length co157] 27 (0, 0)) (pk BK502.out) hg (Kd.R_ne HO_6.out BK502.out (by decide)))
                       have n7_ := am (Kd.R_after (ok := (fun _ => True)) (pr (Kd.R_mono HO506.out (fun _ hk => ⟨trivial, hk.1.2⟩))) hg hat)
                       have n8_ := am (Kd.R_over' (pr HO512.out) (Kd.R_typed (pr HO_6.out)) (by decide) hg)
                       have n9_ := am (hb)
                       have n10_ := am (ho)
                       clear HO_7 HO_475002 BK468 BK474 BK476 HO500 BK502 HO506 HO512 HB HO_6
                       have HO_7 := n0_
                       have HO_475002 := n1_
                       have BK468 := n2_
                       have BK474 := n3_
                       have BK476 := n4_
                       have HO500 := n5_
                       have BK502 := n6_
                       have HO506 := n7_
                       have HO512 := n8_
                       have HB := n9_
                       have HO509 := n10_
                       clear n0_ n1_ n2_ n3_ n4_ n5_ n6_ n7_ n8_ n9_ n10_ ho hb hg hat
                       refine hK.out _ _ ⟨ce BK476 0, ce BK476 1, ce BK476 2⟩ (fun hHeld => ?_)
                       clear hK K
                       refine nm ?_
                       exact nj (hCont (.slice Ao166 y504.length co166, v508, v511) _ ⟨hHeld, (pv (Kd.V_mono HO500.out (fun _ hk => ⟨hk.1.2.1, ⟨hk.2, ⟨hk.1.2.2.1, ⟨hk.1.1, ⟨hk.1.2.2.2.1, ⟨hk.1.2.2.2.2.1, ⟨hk.1.2.2.2.2.2.1, hk.1.2.2.2.2.2.2⟩⟩⟩⟩⟩⟩⟩))), (pr (Kd.R_mono HO506.out (fun _ hk => hk.2))), (pr HO509.out), (pr (Kd.R_mono HO512.out (fun _ hk => hk.2))), (pv (Kd.V_mono HO_475002.out (fun _ hk => ⟨hk.1.2.1, ⟨hk.2, ⟨hk.1.2.2.1, ⟨hk.1.1, ⟨hk.1.2.2.2.1, ⟨hk.1.2.2.2.2.1, ⟨hk.1.2.2.2.2.2.1, hk.1.2.2.2.2.2.2⟩⟩⟩⟩⟩⟩⟩))), (pr (Kd.R_mono HO_7.out (fun _ hk => hk.2))), (pk BK468.out), (pk BK474.out), (pk BK476.out), (pk BK502.out), (pb HB)⟩)
                     ·skip
                      refine Kd.R_lit_step (Kd.int .i64) _ 3 ?hg (N := 136) ?hd (xs := ([((rd_T56 l1 x8_1).f2)] : List Int)) (inner := [.int .i64 ((rd_T56 l1 x8_1).f2)]) (ok := fun _ => True) (okp := fun _ => True) ?hr ?hp (fun _ hk => hk) trivial (Below.refl _ _) (Nat.le_refl _) (by simp) ?_; (case hd => rfl); (case hg => rfl); (case hr => first | (go_simp; done) | (go_simp; rfl)); (case hp => exact (Reps.one (show Kd.M (Kd.int .i64) _ _ _ ((rd_T56 l1 x8_1).f2) [.int .i64 ((rd_T56 l1 x8_1).f2)] from rfl) (Reps.none _ _)))
                      intro v511 w161 ho162 hb hg_ hnew_
                      clear hg_ hnew_
                      (first | rw [← Ny510.out] at ho162 | (simp only [Int.reduceToNat] at ho162; rw [← Ny510.out] at ho162))
                      have n0_ := am (Kd.R_below (pr HO_6.out) hb)
                      have n1_ := am (Kd.R_elder' (pr HO_7.out) (Kd.R_base ho162) hb)
                      have n2_ := am (Kd.R_below (pr HO_52.out) hb)
                      have n3_ := am (Kd.V_elder' (pv HO_475002.out) (Kd.R_base ho162) hb)
                      have n4_ := am (Kd.V_elder' (pv HO500.out) (Kd.R_base ho162) hb)
                      have n5_ := am (Kd.R_lower (Kd.R_new' ho162 (Kd.R_lt (pr HO_7.out))) (below_size (pb HB)))
                      have n6_ := am (blk_below (pk BK468.out) hb)
                      have n7_ := am (blk_below (pk BK474.out) hb)
                      have n8_ := am (blk_below (pk BK476.out) hb)
                      have n9_ := am (blk_below (pk BK502.out) hb)
                      have n10_ := am (below_step (pb HB) hb)
                      clear HO_6 HO_7 HO_52 HO_475002 HO500 BK468 BK474 BK476 BK502 HB
                      have HO_6 := n0_
                      have HO_7 := n1_
                      have HO_52 := n2_
                      have HO_475002 := n3_
                      have HO500 := n4_
                      have HO512 := n5_
                      have BK468 := n6_
                      have BK474 := n7_
                      have BK476 := n8_
                      have BK502 := n9_
                      have HB := n10_
                      clear n0_ n1_ n2_ n3_ n4_ n5_ n6_ n7_ n8_ n9_ n10_ hb ho162
                      refine hK.out _ _ ⟨ce BK476 0, ce BK476 1, ce BK476 2⟩ (fun hHeld => ?_)
                      clear hK K
                      refine nm ?_
                      refine on1 3 (fun K hK => ?_)
                      refine Kd.R_lit_step Kd.string _ 9 ?hg (N := 131) ?hd (xs := ([((rd_T56 l1 x8_1).f1)] : List ByteArray)) (inner := [.string ((rd_T56 l1 x8_1).f1)]) (ok := fun _ => True) (okp := fun _ => True) ?hr ?hp (fun _ hk => hk) trivial (Below.refl _ _) (Nat.le_refl _) (by simp) ?_; (case hd => rfl); (case hg => rfl); (case hr => first | (go_simp; done) | (go_simp; rfl)); (case hp => exact (Reps.one (show Kd.M Kd.string _ _ _ ((rd_T56 l1 x8_1).f1) [.string ((rd_T56 l1 x8_1).f1)] from rfl) (Reps.none _ _)))
                      intro v505 w163 ho164 hb hg_ hnew_
                      clear hg_ hnew_
                      (first | rw [← Ny504.out] at ho164 | (simp only [Int.reduceToNat] at ho164; rw [← Ny504.out] at ho164))
                      have n0_ := am (Kd.R_elder' (pr HO_6.out) (Kd.R_base ho164) hb)
                      have n1_ := am (Kd.R_below (pr HO_7.out) hb)
                      have n2_ := am (Kd.R_elder' (pr HO_52.out) (Kd.R_base ho164) hb)
                      have n3_ := am (Kd.V_elder' (pv HO_475002.out) (Kd.R_base ho164) hb)
                      have n4_ := am (Kd.V_elder' (pv HO500.out) (Kd.R_base ho164) hb)
                      have n5_ := am (Kd.R_below (pr HO512.out) hb)
                      have n6_ := am (Kd.R_lower (Kd.R_new' (Kd.R_new' ho164 (Kd.R_lt (pr HO_6.out))) (Kd.R_lt (pr HO_52.out))) (below_size (pb HB)))
                      have n7_ := am (blk_below (pk BK468.out) hb)
                      have n8_ := am (blk_below (pk BK474.out) hb)
                      have n9_ := am (blk_below (pk BK476.out) hb)
                      have n10_ := am (blk_below (pk BK502.out) hb)
                      have n11_ := am (below_step (pb HB) hb)
                      clear HO_6 HO_7 HO_52 HO_475002 HO500 HO512 BK468 BK474 BK476 BK502 HB
                      have HO_6 := n0_
                      have HO_7 := n1_
                      have HO_52 := n2_
                      have HO_475002 := n3_
                      have HO500 := n4_
                      have HO512 := n5_
                      have HO506 := n6_
                      have BK468 := n7_
                      have BK474 := n8_
                      have BK476 := n9_
                      have BK502 := n10_
                      have HB := n11_
                      clear n0_ n1_ n2_ n3_ n4_ n5_ n6_ n7_ n8_ n9_ n10_ n11_ hb ho164
                      obtain ⟨Ao166, co166, eo166⟩ := Kd.R_slice HO506.out
                      (first | subst eo166 | (injection eo166 with f1_ f2_ f3_; have f4_ := f1_.symm; have f5_ := f3_.symm; clear f1_ f2_ f3_; subst f4_; subst f5_))
                      refine hK.out _ _ ⟨ce BK476 0, ce BK476 1, ce BK476 2⟩ (fun hHeld => ?_)
                      clear hK K
                      refine nm ?_
                      refine on1 4 (fun K hK => ?_)
                      refine Kd.R_append_rows_step Kd.string (w0 := w) w.heap.size (by rfl) (.tmp 128) (.tmp 131) 53 9 (.string ⟨#[]⟩) 16 rfl Try.underlying53 info9 rfl (by decide) (by omega) (.slice Ao35 x6_1.length co35) x6_1 y504 _ _ _ (fun k_ => some k_ ≠ (.slice Ao166 y504.length co166 : Value).ownBlock) (fun _ => False) rfl rfl ?aO ?aR (fun _ _ h => h) (fun _ h => h.elim) ?aF ?aB ?aS ?aL ?_
                      (case aR => repeat (first | exact (Kd.R_reads' HO506.out).2.2 | (with_reducible refine Kd.C_alloc ?_ _) | (with_reducible refine Kd.C_drewN ?_ _) | (with_reducible refine Kd.C_drew ?_)))
                      (case aB => exact (pb HB))
                      (case aF => exact (fun k_ hk => Kd.fresh' (Kd.R_lt (pr HO506.out)) k_ hk))
                      (case aO => exact (pr (Kd.R_mono HO_6.out (fun _ hk => hk.2))))
                      (case aS => exact (below_size (pb HB)))
                      (case aL => have := LMc143.out; omega)
                      intro v508 w165 ho hb hg hat
                      rw [← Ny507.out] at ho
                      have n0_ := am (Kd.R_over' (pr HO_7.out) (Kd.R_typed (pr HO_6.out)) (by decide) hg)
                      have n1_ := am (Kd.V_afterv (ok := (fun k_ => some k_ ≠ (.slice Ao158 x7_1.length co158 : Value).ownBlock ∧ some k_ ≠ (v511 : Value).ownBlock ∧ some k_ ≠ (.slice Ao166 y504.length co166 : Value).ownBlock ∧ k_ ≠ gb468 ∧ k_ ≠ gb474 ∧ k_ ≠ gb476 ∧ k_ ≠ gb502)) (pv (Kd.V_mono HO_475002.out (fun _ hk => ⟨⟨hk.1.1.2.1, ⟨hk.1.2, ⟨hk.2, ⟨hk.1.1.2.2.2.1, ⟨hk.1.1.2.2.2.2.1, ⟨hk.1.1.2.2.2.2.2.1, hk.1.1.2.2.2.2.2.2⟩⟩⟩⟩⟩⟩, hk.1.1.1⟩))) hg hat)
                      have n2_ := am (blk_grown (g := gb468) (o := .cells #[.int .u64 a0_0, .int .u64 a0_1] 24 (0, 0)) (pk BK468.out) hg (Kd.R_ne HO_6.out BK468.out (by decide)))
                      have n3_ := am (blk_grown (g := gb474) (o := .cells #[.int .u64 x475000_1, .int .u64 x475001_1, .slice Ao150 x475002_1.length co150] 27 (0, 0)) (pk BK474.out) hg (Kd.R_ne HO_6.out BK474.out (by decide)))
                      have n4_ := am (blk_grown (g := gb476) (o := .cells #[.bool ((rd_T56 l1 x8_1).f0), .string ((rd_T56 l1 x8_1).f1), .int .i64 ((rd_T56 l1 x8_1).f2)] 56 (0, 0)) (pk BK476.out) hg (Kd.R_ne HO_6.out BK476.out (by decide)))
                      have n5_ := am (Kd.V_afterv (ok := (fun k_ => some k_ ≠ (.slice Ao158 x7_1.length co158 : Value).ownBlock ∧ some k_ ≠ (v511 : Value).ownBlock ∧ some k_ ≠ (.slice Ao166 y504.length co166 : Value).ownBlock ∧ k_ ≠ gb468 ∧ k_ ≠ gb474 ∧ k_ ≠ gb476 ∧ k_ ≠ gb502)) (pv (Kd.V_mono HO500.out (fun _ hk => ⟨⟨hk.1.1.2.1, ⟨hk.1.2, ⟨hk.2, ⟨hk.1.1.2.2.2.1, ⟨hk.1.1.2.2.2.2.1, ⟨hk.1.1.2.2.2.2.2.1, hk.1.1.2.2.2.2.2.2⟩⟩⟩⟩⟩⟩, hk.1.1.1⟩))) hg hat)
                      have n6_ := am (blk_grown (g := gb502) (o := .cells #[.int .u64 t496, .int .u64 t497, .slice Ao157 t498.length co157] 27 (0, 0)) (pk BK502.out) hg (Kd.R_ne HO_6.out BK502.out (by decide)))
                      have n7_ := am (Kd.R_over' (pr HO512.out) (Kd.R_typed (pr HO_6.out)) (by decide) hg)
                      have n8_ := am (Kd.R_after (ok := (fun _ => True)) (pr (Kd.R_mono HO506.out (fun _ hk => ⟨trivial, hk.1.2⟩))) hg hat)
                      have n9_ := am (hb)
                      have n10_ := am (ho)
                      clear HO_7 HO_475002 BK468 BK474 BK476 HO500 BK502 HO512 HO506 HB HO_6
                      have HO_7 := n0_
                      have HO_475002 := n1_
                      have BK468 := n2_
                      have BK474 := n3_
                      have BK476 := n4_
                      have HO500 := n5_
                      have BK502 := n6_
                      have HO512 := n7_
                      have HO506 := n8_
                      have HB := n9_
                      have HO509 := n10_
                      clear n0_ n1_ n2_ n3_ n4_ n5_ n6_ n7_ n8_ n9_ n10_ ho hb hg hat
                      refine hK.out _ _ ⟨ce BK476 0, ce BK476 1, ce BK476 2⟩ (fun hHeld => ?_)
                      clear hK K
                      refine nm ?_
                      exact nj (hCont (.slice Ao166 y504.length co166, v508, v511) _ ⟨hHeld, (pv (Kd.V_mono HO500.out (fun _ hk => ⟨hk.1.2.2.1, ⟨hk.2, ⟨hk.1.2.1, ⟨hk.1.1, ⟨hk.1.2.2.2.1, ⟨hk.1.2.2.2.2.1, ⟨hk.1.2.2.2.2.2.1, hk.1.2.2.2.2.2.2⟩⟩⟩⟩⟩⟩⟩))), (pr (Kd.R_mono HO506.out (fun _ hk => hk.2))), (pr HO509.out), (pr (Kd.R_mono HO512.out (fun _ hk => hk.2))), (pv (Kd.V_mono HO_475002.out (fun _ hk => ⟨hk.1.2.2.1, ⟨hk.2, ⟨hk.1.2.1, ⟨hk.1.1, ⟨hk.1.2.2.2.1, ⟨hk.1.2.2.2.2.1, ⟨hk.1.2.2.2.2.2.1, hk.1.2.2.2.2.2.2⟩⟩⟩⟩⟩⟩⟩))), (pr (Kd.R_mono HO_7.out (fun _ hk => hk.2))), (pk BK468.out), (pk BK474.out), (pk BK476.out), (pk BK502.out), (pb HB)⟩)
                    rintro ⟨v505, v508, v511⟩ w167 ⟨hS_, h0_, h1_, h2_, h3_, h4_, h5_, h6_, h7_, h8_, h9_, h10_⟩
                    replace HO500 : Aside0 (Kd.V k60 60 w167 w.heap.size (fun k_ => some k_ ≠ (v505 : Value).ownBlock ∧ some k_ ≠ (v508 : Value).ownBlock ∧ some k_ ≠ (v511 : Value).ownBlock ∧ some k_ ≠ (.slice Ao158 x7_1.length co158 : Value).ownBlock ∧ k_ ≠ gb468 ∧ k_ ≠ gb474 ∧ k_ ≠ gb476 ∧ k_ ≠ gb502) (.slice Ao157 t498.length co157) t498) := ⟨h0_⟩
                    have HO506 : Aside0 (Kd.R Kd.string 9 w167 w.heap.size (fun k_ => some k_ ≠ (v508 : Value).ownBlock) v505 y504) := ⟨h1_⟩
                    have HO509 : Aside0 (Kd.R Kd.string 9 w167 w.heap.size (fun k_ => some k_ ≠ (v505 : Value).ownBlock) v508 y507) := ⟨h2_⟩
                    have HO512 : Aside0 (Kd.R (Kd.int .i64) 3 w167 w.heap.size (fun k_ => some k_ ≠ (.slice Ao158 x7_1.length co158 : Value).ownBlock) v511 y510) := ⟨h3_⟩
                    replace HO_475002 : Aside0 (Kd.V k60 60 w167 w.heap.size (fun k_ => some k_ ≠ (v505 : Value).ownBlock ∧ some k_ ≠ (v508 : Value).ownBlock ∧ some k_ ≠ (v511 : Value).ownBlock ∧ some k_ ≠ (.slice Ao158 x7_1.length co158 : Value).ownBlock ∧ k_ ≠ gb468 ∧ k_ ≠ gb474 ∧ k_ ≠ gb476 ∧ k_ ≠ gb502) (.slice Ao150 x475002_1.length co150) x475002_1) := ⟨h4_⟩
                    replace HO_7 : Aside0 (Kd.R (Kd.int .i64) 3 w167 w.heap.size (fun k_ => some k_ ≠ (v511 : Value).ownBlock) (.slice Ao158 x7_1.length co158) x7_1) := ⟨h5_⟩
                    replace BK468 : Aside0 (w167.heap[gb468]? = some (.cells #[.int .u64 a0_0, .int .u64 a0_1] 24 (0, 0))) := ⟨h6_⟩
                    replace BK474 : Aside0 (w167.heap[gb474]? = some (.cells #[.int .u64 x475000_1, .int .u64 x475001_1, .slice Ao150 x475002_1.length co150] 27 (0, 0))) := ⟨h7_⟩
                    replace BK476 : Aside0 (w167.heap[gb476]? = some (.cells #[.bool ((rd_T56 l1 x8_1).f0), .string ((rd_T56 l1 x8_1).f1), .int .i64 ((rd_T56 l1 x8_1).f2)] 56 (0, 0))) := ⟨h8_⟩
                    replace BK502 : Aside0 (w167.heap[gb502]? = some (.cells #[.int .u64 t496, .int .u64 t497, .slice Ao157 t498.length co157] 27 (0, 0))) := ⟨h9_⟩
                    replace HB : Aside0 (Below w.heap.size w w167) := ⟨h10_⟩
                    clear HO_6 HO_52 h0_ h1_ h2_ h3_ h4_ h5_ h6_ h7_ h8_ h9_ h10_
                    have hHeld : w167.cell? ⟨gb476, 0, none⟩ = some (.bool ((rd_T56 l1 x8_1).f0)) ∧ w167.cell? ⟨gb476, 1, none⟩ = some (.string ((rd_T56 l1 x8_1).f1)) ∧ w167.cell? ⟨gb476, 2, none⟩ = some (.int .i64 ((rd_T56 l1 x8_1).f2)) := hS_
                    obtain ⟨Ao169, co169, eo169⟩ := Kd.R_slice HO512.out
                    (first | subst eo169 | (injection eo169 with f1_ f2_ f3_; have f4_ := f1_.symm; have f5_ := f3_.symm; clear f1_ f2_ f3_; subst f4_; subst f5_))
                    refine norm_ (a' := ?_) ?_ ?_
                    rotate_left
                    ·simp only [putAll, Act.put, List.setIfInBounds_toArray, List.set_cons_zero, List.set_cons_succ]
                     rfl
                    refine on1 9 (fun K hK => ?_)
                    refine Kd.R_append_rows_step (Kd.int .i64) (w0 := w) w.heap.size (by rfl) (.tmp 133) (.tmp 136) 54 3 (.int .i64 0) 8 rfl Try.underlying54 info3 rfl (by decide) (by omega) (.slice Ao158 x7_1.length co158) x7_1 y510 _ _ _ (fun k_ => some k_ ≠ (.slice Ao169 y510.length co169 : Value).ownBlock) (fun _ => False) rfl rfl ?aO ?aR (fun _ _ h => h) (fun _ h => h.elim) ?aF ?aB ?aS ?aL ?_
                    (case aR => repeat (first | exact (Kd.R_reads' HO512.out).2.2 | (with_reducible refine Kd.C_alloc ?_ _) | (with_reducible refine Kd.C_drewN ?_ _) | (with_reducible refine Kd.C_drew ?_)))
                    (case aB => exact (pb HB))
                    (case aF => exact (fun k_ hk => Kd.fresh' (Kd.R_lt (pr HO512.out)) k_ hk))
                    (case aO => exact (pr HO_7.out))
                    (case aS => exact (below_size (pb HB)))
                    (case aL => have := LMc144.out; omega)
                    intro v514 w168 ho hb hg hat
                    rw [← Ny513.out] at ho
                    have n0_ := am (Kd.V_afterv (ok := (fun k_ => some k_ ≠ (v505 : Value).ownBlock ∧ some k_ ≠ (v508 : Value).ownBlock ∧ some k_ ≠ (.slice Ao169 y510.length co169 : Value).ownBlock ∧ k_ ≠ gb468 ∧ k_ ≠ gb474 ∧ k_ ≠ gb476 ∧ k_ ≠ gb502)) (pv (Kd.V_mono HO_475002.out (fun _ hk => ⟨⟨hk.1, ⟨hk.2.1, ⟨hk.2.2.1, ⟨hk.2.2.2.2.1, ⟨hk.2.2.2.2.2.1, ⟨hk.2.2.2.2.2.2.1, hk.2.2.2.2.2.2.2⟩⟩⟩⟩⟩⟩, hk.2.2.2.1⟩))) hg hat)
                    have n1_ := am (blk_grown (g := gb468) (o := .cells #[.int .u64 a0_0, .int .u64 a0_1] 24 (0, 0)) (pk BK468.out) hg (Kd.R_ne HO_7.out BK468.out (by decide)))
                    have n2_ := am (blk_grown (g := gb474) (o := .cells #[.int .u64 x475000_1, .int .u64 x475001_1, .slice Ao150 x475002_1.length co150] 27 (0, 0)) (pk BK474.out) hg (Kd.R_ne HO_7.out BK474.out (by decide)))
                    have n3_ := am (blk_grown (g := gb476) (o := .cells #[.bool ((rd_T56 l1 x8_1).f0), .string ((rd_T56 l1 x8_1).f1), .int .i64 ((rd_T56 l1 x8_1).f2)] 56 (0, 0)) (pk BK476.out) hg (Kd.R_ne HO_7.out BK476.out (by decide)))
                    have n4_ := am (Kd.V_afterv (ok := (fun k_ => some k_ ≠ (v505 : Value).ownBlock ∧ some k_ ≠ (v508 : Value).ownBlock ∧ some k_ ≠ (.slice Ao169 y510.length co169 : Value).ownBlock ∧ k_ ≠ gb468 ∧ k_ ≠ gb474 ∧ k_ ≠ gb476 ∧ k_ ≠ gb502)) (pv (Kd.V_mono HO500.out (fun _ hk => ⟨⟨hk.1, ⟨hk.2.1, ⟨hk.2.2.1, ⟨hk.2.2.2.2.1, ⟨hk.2.2.2.2.2.1, ⟨hk.2.2.2.2.2.2.1, hk.2.2.2.2.2.2.2⟩⟩⟩⟩⟩⟩, hk.2.2.2.1⟩))) hg hat)
                    have n5_ := am (blk_grown (g := gb502) (o := .cells #[.int .u64 t496, .int .u64 t497, .slice Ao157 t498.length co157] 27 (0, 0)) (pk BK502.out) hg (Kd.R_ne HO_7.out BK502.out (by decide)))
                    have n6_ := am (Kd.R_over' (pr HO506.out) (Kd.R_typed (pr HO_7.out)) (by decide) hg)
                    have n7_ := am (Kd.R_over' (pr HO509.out) (Kd.R_typed (pr HO_7.out)) (by decide) hg)
                    have n8_ := am (Kd.R_after (ok := (fun _ => True)) (pr (Kd.R_mono HO512.out (fun _ hk => ⟨trivial, hk⟩))) hg hat)
                    have n9_ := am (hb)
                    have n10_ := am (ho)
                    clear HO_475002 BK468 BK474 BK476 HO500 BK502 HO506 HO509 HO512 HB HO_7
                    have HO_475002 := n0_
                    have BK468 := n1_
                    have BK474 := n2_
                    have BK476 := n3_
                    have HO500 := n4_
                    have BK502 := n5_
                    have HO506 := n6_
                    have HO509 := n7_
                    have HO512 := n8_
                    have HB := n9_
                    have HO515 := n10_
                    clear n0_ n1_ n2_ n3_ n4_ n5_ n6_ n7_ n8_ n9_ n10_ ho hb hg hat
                    refine hK.out _ _ ⟨ce BK476 0, ce BK476 1, ce BK476 2⟩ (fun hHeld => ?_)
                    clear hK K
                    refine nm ?_
                    refine pu 10 ?_
                    refine pu 11 ?_
                    refine done_ (done_of HT_.out (by kernel_rfl)) ?_
                    have hcz170_0 := ce BK502 0
                    have hcz170_1 := ce BK502 1
                    have hcz170_2 := ce BK502 2
                    have hfz170_0 := fz BK502 0
                    have hfz170_1 := fz BK502 1
                    have hfz170_2 := fz BK502 2
                    have hcz171_0 := ce BK474 0
                    have hcz171_1 := ce BK474 1
                    have hcz171_2 := ce BK474 2
                    have hfz171_0 := fz BK474 0
                    have hfz171_1 := fz BK474 1
                    have hfz171_2 := fz BK474 2
                    try go_wp2
                    go_meet
                    case rel => exact ⟨_, (y507), (y513), (t496), (t497), (t498), (.slice Ao157 t498.length co157), H', ⟨by have := HK1.out; have := HJ10.out; have := HJ15.out; have := HK4.out; first | omega | exact Nat.le_refl _⟩, ⟨by refine pr ?_; exact Kd.R_mono (Kd.R_far (p := ⟨gb474, 2, none⟩) (Kd.R_far (p := ⟨gb474, 1, none⟩) (Kd.R_far (p := ⟨gb474, 0, none⟩) (Kd.R_types HO509.out BK474.out (by decide)) (fun _ hk => hk.2) (.int .u64 t496)) (fun _ hk => hk.2) (.int .u64 t497)) (fun _ hk => hk.2) (.slice Ao157 t498.length co157)) (fun _ hk => trivial)⟩, ⟨by refine pr ?_; exact Kd.R_mono (Kd.R_far (p := ⟨gb474, 2, none⟩) (Kd.R_far (p := ⟨gb474, 1, none⟩) (Kd.R_far (p := ⟨gb474, 0, none⟩) (Kd.R_types HO515.out BK474.out (by decide)) (fun _ hk => hk.2) (.int .u64 t496)) (fun _ hk => hk.2) (.int .u64 t497)) (fun _ hk => hk.2) (.slice Ao157 t498.length co157)) (fun _ hk => trivial)⟩, ⟨by refine pv ?_; exact Kd.V_mono (Kd.V_far (p := ⟨gb474, 2, none⟩) (Kd.V_far (p := ⟨gb474, 1, none⟩) (Kd.V_far (p := ⟨gb474, 0, none⟩) (Kd.V_mono HO500.out (fun k_ hk => (⟨hk, hk.1.2.2.2.2.1⟩ : _ ∧ k_ ≠ gb474))) (fun _ hk => hk.2) (.int .u64 t496)) (fun _ hk => hk.2) (.int .u64 t497)) (fun _ hk => hk.2) (.slice Ao157 t498.length co157)) (fun _ hk => ⟨hk.1.1.2.1, ⟨hk.1.2, ⟨hk.1.1.2.2.2.1, ⟨hk.1.1.2.2.2.2.1, hk.1.1.2.2.2.2.2.1⟩⟩⟩⟩)⟩, ⟨by refine pk ?_; refine blk_far ?_ NB468_474.out _; refine pk ?_; refine blk_far ?_ NB468_474.out _; refine pk ?_; refine blk_far ?_ NB468_474.out _; refine pk ?_; exact BK468.out⟩, ⟨by refine pk ?_; refine blk_put (cs := #[.int .u64 t496, .int .u64 t497, .slice Ao150 x475002_1.length co150]) ?_ 2 _ rfl; refine pk ?_; refine blk_put (cs := #[.int .u64 t496, .int .u64 x475001_1, .slice Ao150 x475002_1.length co150]) ?_ 1 _ rfl; refine pk ?_; refine blk_put (cs := #[.int .u64 x475000_1, .int .u64 x475001_1, .slice Ao150 x475002_1.length co150]) ?_ 0 _ rfl; refine pk ?_; exact BK474.out⟩, ⟨by refine pk ?_; refine blk_far ?_ NB476_474.out _; refine pk ?_; refine blk_far ?_ NB476_474.out _; refine pk ?_; refine blk_far ?_ NB476_474.out _; refine pk ?_; exact BK476.out⟩, ⟨pb HB⟩⟩
                   ·rw [if_neg c144] at H
                    exact absurd H (by simp)
                  ·rw [if_neg c143] at H
                   exact absurd H (by simp)
                ·rw [if_neg c119] at H
                 exact Bool.noConfusion ((Option.some.inj H).trans hrT.out)
              case rest =>
               clear HC46
               try clear c1
               try clear p2
               try clear c11
               try clear c13
               try clear c14
               try clear c17
               try clear c18
               try clear c119
               try clear c119b0
               try clear c119b1
               try clear c143
               try clear c144
               try clear c172
               try clear c173
               try clear c175
               try clear c180
               try clear c181
               try clear c182
               try clear hcz170_0 hcz170_1 hcz170_2
               try clear hcz171_0 hcz171_1 hcz171_2
               try clear hcz174_0 hcz174_1 hcz174_2
               try clear hcz176_0 hcz176_1 hcz176_2
               try clear hcz183_0 hcz183_1 hcz183_2
               try clear hfz170_0 hfz170_1 hfz170_2
               try clear hfz171_0 hfz171_1 hfz171_2
               try clear hfz174_0 hfz174_1 hfz174_2
               try clear hfz176_0 hfz176_1 hfz176_2
               try clear hfz183_0 hfz183_1 hfz183_2
               obtain ⟨kq, x6_45, x7_45, x475000_45, x475001_45, x475002_45, u475002, HA, HJ45, HO_6, HO_7, HO_475002, BK468, BK474, BK476, HB⟩ := hcut
               cases kq with
               | zero => exact absurd HA.out (by simp [l12_IndexKeeps.j4])
               | succ kj45 =>
                have H := HA.out
                clear HA
                simp only [l12_IndexKeeps.j4] at H
                replace H := Option.bind_eq_some_iff.mp H
                obtain ⟨t516, A1850, H⟩ := H
                replace H : (if t516 = true then ((index_Many.f kj45 x475000_45 x475001_45 x475002_45).bind fun t517 => (if t517 = (x6_45.length : Int) then (l12_IndexKeeps.l0 kj45 l1 x6_45 x7_45 (wrap64 (x8_1 + 1)) x475000_45 x475001_45 x475002_45) else (some false))) else (some false)) = some r := H
                have A185 := am A1850
                clear A1850
                by_cases c186 : t516 = true
                ·subst c186
                 have H1 : ((index_Many.f kj45 x475000_45 x475001_45 x475002_45).bind fun t517 => (if t517 = (x6_45.length : Int) then (l12_IndexKeeps.l0 kj45 l1 x6_45 x7_45 (wrap64 (x8_1 + 1)) x475000_45 x475001_45 x475002_45) else (some false))) = some r := by rw [if_pos rfl] at H; exact H
                 clear H
                 have H := H1
                 clear H1
                 replace H := Option.bind_eq_some_iff.mp H
                 obtain ⟨t517, A1870, H⟩ := H
                 replace H : (if t517 = (x6_45.length : Int) then (l12_IndexKeeps.l0 kj45 l1 x6_45 x7_45 (wrap64 (x8_1 + 1)) x475000_45 x475001_45 x475002_45) else (some false)) = some r := H
                 have A187 := am A1870
                 clear A1870
                 by_cases c188 : t517 = (x6_45.length : Int)
                 ·rw [if_pos c188] at H
                  have c188b0 : (t517 == (x6_45.length : Int)) = true := beq_iff_eq.mpr c188
                  have c188b1 : (t517 != (x6_45.length : Int)) = false := bne_eq_false_iff_eq.mpr c188
                  clear c188
                  have H' := am H
                  clear H
                  have hnb189 := NB474_468.out
                  have hnc189 := NB468_474.out
                  have hnb190 := NB474_476.out
                  have hnc190 := NB476_474.out
                  have hcz191_0 := ce BK474 0
                  have hcz191_1 := ce BK474 1
                  have hcz191_2 := ce BK474 2
                  have hfz191_0 := fz BK474 0
                  have hfz191_1 := fz BK474 1
                  have hfz191_2 := fz BK474 2
                  obtain ⟨Ao192, co192, eo192⟩ := Kd.V_slice HO_475002.out
                  subst eo192
                  go_wp2_with (first | ((with_reducible refine gate_callee (f := 15) rfl ?_); refine gl (some 140) Try.func15 #[.agg #[.int .u64 x475000_45, .int .u64 x475001_45, .slice Ao192 x475002_45.length co192]] ?_; (with_reducible refine (index_Right.calls kj45 x475000_45 x475001_45 _ _ x475002_45 true _ ?side1 ?side2 A185.out).mono ?_); (case side1 => repeat (first | exact (Kd.V_reads' HO_475002.out).2.2 | (with_reducible refine Kd.C_alloc ?_ _) | (with_reducible refine Kd.C_drewN ?_ _) | (with_reducible refine Kd.C_drew ?_))); (case side2 => exact (Kd.V_reads' HO_475002.out).2.1); rintro e w193 ⟨rfl, hb⟩; refine ⟨_, rfl, ?_⟩; replace HO_6 := am (Kd.R_below (pr HO_6.out) hb); replace HO_7 := am (Kd.R_below (pr HO_7.out) hb); replace HO_475002 := am (Kd.V_below (pv HO_475002.out) hb); replace BK468 := am (blk_below (pk BK468.out) hb); replace BK474 := am (blk_below (pk BK474.out) hb); replace BK476 := am (blk_below (pk BK476.out) hb); replace HB := am (below_step (pb HB) hb); (try clear hb); (try clear hb2); (try clear hk); (try clear hi); have hcz194_0 := ce BK474 0; have hcz194_1 := ce BK474 1; have hcz194_2 := ce BK474 2; have hfz194_0 := fz BK474 0; have hfz194_1 := fz BK474 1; have hfz194_2 := fz BK474 2) | (go_at_call 16; (with_reducible refine (index_Many.calls kj45 x475000_45 x475001_45 _ _ x475002_45 t517 _ ?side1 ?side2 A187.out).mono ?_); (case side1 => repeat (first | exact (Kd.V_reads' HO_475002.out).2.2 | (with_reducible refine Kd.C_alloc ?_ _) | (with_reducible refine Kd.C_drewN ?_ _) | (with_reducible refine Kd.C_drew ?_))); (case side2 => exact (Kd.V_reads' HO_475002.out).2.1); rintro e w195 ⟨rfl, hb⟩; replace HO_6 := am (Kd.R_below (pr HO_6.out) hb); replace HO_7 := am (Kd.R_below (pr HO_7.out) hb); replace HO_475002 := am (Kd.V_below (pv HO_475002.out) hb); replace BK468 := am (blk_below (pk BK468.out) hb); replace BK474 := am (blk_below (pk BK474.out) hb); replace BK476 := am (blk_below (pk BK476.out) hb); replace HB := am (below_step (pb HB) hb); (try clear hb); (try clear hb2); (try clear hk); (try clear hi); obtain ⟨Ao196, co196, eo196⟩ := Kd.R_slice HO_6.out; subst eo196))
                  go_roundg kj45
                  case measure => have := HK1.out; have := HJ10.out; have := HJ15.out; have := HK4.out; have := HJ45.out; omega
                  case rel => exact ⟨(x6_45), (x7_45), (wrap64 (x8_1 + 1)), (x475000_45), (x475001_45), (x475002_45), (.slice Ao192 x475002_45.length co192), (by first | rfl | (simp; done) | (simp [*]; done)), H', ⟨by have := HK1.out; have := HJ10.out; have := HJ15.out; have := HK4.out; have := HJ45.out; omega⟩, ⟨pr HO_6.out⟩, ⟨pr HO_7.out⟩, ⟨by refine pv ?_; exact Kd.V_mono HO_475002.out (fun _ hk => ⟨hk.1, ⟨hk.2.1, ⟨hk.2.2.1, hk.2.2.2.1⟩⟩⟩)⟩, ⟨pk BK468.out⟩, ⟨pk BK474.out⟩, ⟨pb HB⟩⟩
                 ·rw [if_neg c188] at H
                  exact Bool.noConfusion ((Option.some.inj H).trans hrT.out)
                ·replace c186 := Bool.eq_false_iff.mpr c186
                 subst c186
                 have H1 : (some false) = some r := by rw [if_neg (show ¬ (false = true) by decide)] at H; exact H
                 exact Bool.noConfusion ((Option.some.inj H1).trans hrT.out)
       ·rw [if_neg c15] at H
        exact absurd H (by simp)
      ·rw [if_neg c14] at H
       exact absurd H (by simp)
     ·replace c13 := Bool.eq_false_iff.mpr c13
      subst c13
      have H1 : (l12_IndexKeeps.l2 kj10 x7_1 x6_1 (x6_1.length : Int) 0 x475000_1 x475001_1 x475002_1) = some r := by rw [if_neg (show ¬ (false = true) by decide)] at H; exact H
      clear H
      have H := H1
      clear H1
      have H' := am H
      clear H
      obtain ⟨Ao210, co210, eo210⟩ := Kd.R_slice HO_6.out
      subst eo210
      go_wp2
      go_loopg [151] kj10 (fun kq v151 w' => ∃ (x151_3 : Int), v151 = .int .i64 x151_3 ∧ Aside0 (l12_IndexKeeps.l2 kq x7_1 x6_1 (x6_1.length : Int) x151_3 x475000_1 x475001_1 x475002_1 = some r) ∧ Aside0 (kq ≤ kj10) ∧ Aside0 (Kd.R (Kd.int .i64) 3 w' w.heap.size (fun _ => True) u7 x7_1) ∧ Aside0 (Kd.R Kd.string 9 w' w.heap.size (fun _ => True) (.slice Ao210 x6_1.length co210) x6_1) ∧ Aside0 (Kd.V k60 60 w' w.heap.size (fun k_ => some k_ ≠ (u7 : Value).ownBlock ∧ some k_ ≠ ((.slice Ao210 x6_1.length co210) : Value).ownBlock ∧ k_ ≠ gb468 ∧ k_ ≠ gb474) u475002 x475002_1) ∧ Aside0 (w'.heap[gb468]? = some (.cells #[.int .u64 a0_0, .int .u64 a0_1] 24 (0, 0))) ∧ Aside0 (w'.heap[gb474]? = some (.cells #[.int .u64 x475000_1, .int .u64 x475001_1, u475002] 27 (0, 0))) ∧ Aside0 (Below w.heap.size w w'))
      case atStart => exact ⟨(0), (by first | rfl | (simp; done) | (simp [*]; done)), H', ⟨Nat.le_refl _⟩, ⟨pr HO_7.out⟩, ⟨pr HO_6.out⟩, ⟨by refine pv ?_; exact Kd.V_mono HO_475002.out (fun _ hk => ⟨hk.2.1, ⟨hk.1, ⟨hk.2.2.1, hk.2.2.2⟩⟩⟩)⟩, ⟨pk BK468.out⟩, ⟨pk BK474.out⟩, ⟨pb HB⟩⟩
      case round =>
       clear H'
       try clear c1
       try clear c2
       try clear p2
       try clear p6
       try clear c11
       try clear c13
       try clear c14
       try clear c15
       try clear c17
       try clear c18
       try clear c19
       try clear c20
       try clear p64
       try clear c119
       try clear c119b0
       try clear c119b1
       try clear c143
       try clear c144
       try clear c172
       try clear c173
       try clear c175
       try clear c180
       try clear c181
       try clear c182
       try clear c186
       try clear c188
       try clear c188b0
       try clear c188b1
       try clear c189
       try clear c190
       try clear c197
       try clear c198
       try clear c205
       try clear c206
       try clear hcz170_0 hcz170_1 hcz170_2
       try clear hcz171_0 hcz171_1 hcz171_2
       try clear hcz174_0 hcz174_1 hcz174_2
       try clear hcz176_0 hcz176_1 hcz176_2
       try clear hcz183_0 hcz183_1 hcz183_2
       try clear hcz191_0 hcz191_1 hcz191_2
       try clear hcz194_0 hcz194_1 hcz194_2
       try clear hcz199_0 hcz199_1 hcz199_2
       try clear hcz202_0 hcz202_1 hcz202_2
       try clear hcz207_0 hcz207_1 hcz207_2
       try clear hfz170_0 hfz170_1 hfz170_2
       try clear hfz171_0 hfz171_1 hfz171_2
       try clear hfz174_0 hfz174_1 hfz174_2
       try clear hfz176_0 hfz176_1 hfz176_2
       try clear hfz183_0 hfz183_1 hfz183_2
       try clear hfz191_0 hfz191_1 hfz191_2
       try clear hfz194_0 hfz194_1 hfz194_2
       try clear hfz199_0 hfz199_1 hfz199_2
       try clear hfz202_0 hfz202_1 hfz202_2
       try clear hfz207_0 hfz207_1 hfz207_2
       try clear p2
       obtain ⟨x151_3, rfl, HA, HK3, HO_7, HO_149, HO_475002, BK468, BK474, HB⟩ := hrel
       cases gk with
       | zero => exact absurd HA.out (by simp [l12_IndexKeeps.l2])
       | succ k3 =>
        have H := HA.out
        clear HA
        simp only [l12_IndexKeeps.l2] at H
        by_cases c211 : x151_3 < (x6_1.length : Int)
        ·rw [if_pos c211] at H
         have c211b0 : decide (x151_3 < (x6_1.length : Int)) = true := decide_eq_true c211
         clear c211
         by_cases c212 : 0 ≤ x151_3
         ·rw [if_pos c212] at H
          have c212b0 : decide (0 ≤ x151_3) = true := decide_eq_true c212
          clear c212
          by_cases c213 : x151_3 < (x6_1.length : Int)
          ·rw [if_pos c213] at H
           have c213b0 : decide (x151_3 < (x6_1.length : Int)) = true := decide_eq_true c213
           clear c213
           replace H := Option.bind_eq_some_iff.mp H
           obtain ⟨⟨t519, t520⟩, A2140, H⟩ := H
           replace H : (if t520 = true then (if x151_3 < (x7_1.length : Int) then (if t519 = (rd x7_1 x151_3) then (l12_IndexKeeps.l2 k3 x7_1 x6_1 (x6_1.length : Int) (wrap64 (x151_3 + 1)) x475000_1 x475001_1 x475002_1) else (some false)) else (none)) else (some false)) = some r := H
           have A214 := am A2140
           clear A2140
           by_cases c215 : t520 = true
           ·subst c215
            have H1 : (if x151_3 < (x7_1.length : Int) then (if t519 = (rd x7_1 x151_3) then (l12_IndexKeeps.l2 k3 x7_1 x6_1 (x6_1.length : Int) (wrap64 (x151_3 + 1)) x475000_1 x475001_1 x475002_1) else (some false)) else (none)) = some r := by rw [if_pos rfl] at H; exact H
            clear H
            have H := H1
            clear H1
            by_cases c216 : x151_3 < (x7_1.length : Int)
            ·rw [if_pos c216] at H
             have c216b0 : decide (x151_3 < (x7_1.length : Int)) = true := decide_eq_true c216
             clear c216
             by_cases c217 : t519 = (rd x7_1 x151_3)
             ·rw [if_pos c217] at H
              have c217b0 : (t519 == (rd x7_1 x151_3)) = true := beq_iff_eq.mpr c217
              have c217b1 : (t519 != (rd x7_1 x151_3)) = false := bne_eq_false_iff_eq.mpr c217
              clear c217
              have H' := am H
              clear H
              have p518 : 0 ≤ (x151_3 : Int) := of_decide_eq_true (by first | (with_reducible assumption) | assumption)
              have q518 : x151_3 < (x6_1.length : Int) := of_decide_eq_true (by first | (with_reducible assumption) | assumption)
              obtain ⟨ad518, e518, hx518_0⟩ := Kd.at_string (Kd.R_reads' HO_149.out).2.2 x151_3 p518 q518
              cases e518
              replace p518 := eq_true p518
              replace q518 := eq_true q518
              have hnb218 := NB474_468.out
              have hnc218 := NB468_474.out
              have hcz219_0 := ce BK474 0
              have hcz219_1 := ce BK474 1
              have hcz219_2 := ce BK474 2
              have hfz219_0 := fz BK474 0
              have hfz219_1 := fz BK474 1
              have hfz219_2 := fz BK474 2
              obtain ⟨Ao220, co220, eo220⟩ := Kd.V_slice HO_475002.out
              subst eo220
              go_wp2_with (first | ((with_reducible refine gate_callee (f := 12) rfl ?_); refine gl (some 159) Try.func12 #[.agg #[.int .u64 x475000_1, .int .u64 x475001_1, .slice Ao220 x475002_1.length co220], .string (rdOf ByteArray.empty x6_1 x151_3)] ?_; (with_reducible refine (index_Get.calls k3 x475000_1 x475001_1 _ _ x475002_1 (rdOf ByteArray.empty x6_1 x151_3) t519 true _ ?side1 ?side2 A214.out).mono ?_); (case side1 => repeat (first | exact (Kd.V_reads' HO_475002.out).2.2 | (with_reducible refine Kd.C_alloc ?_ _) | (with_reducible refine Kd.C_drewN ?_ _) | (with_reducible refine Kd.C_drew ?_))); (case side2 => exact (Kd.V_reads' HO_475002.out).2.1); rintro e w221 ⟨rfl, hb⟩; refine ⟨_, rfl, ?_⟩; replace HO_7 := am (Kd.R_below (pr HO_7.out) hb); replace HO_149 := am (Kd.R_below (pr HO_149.out) hb); replace HO_475002 := am (Kd.V_below (pv HO_475002.out) hb); replace BK468 := am (blk_below (pk BK468.out) hb); replace BK474 := am (blk_below (pk BK474.out) hb); replace HB := am (below_step (pb HB) hb); (try clear hb); (try clear hb2); (try clear hk); (try clear hi); obtain ⟨Ao222, co222, eo222⟩ := Kd.R_slice HO_7.out; subst eo222; have p521 : 0 ≤ (x151_3 : Int) := of_decide_eq_true (by first | (with_reducible assumption) | assumption); have q521 : x151_3 < (x7_1.length : Int) := of_decide_eq_true (by first | (with_reducible assumption) | assumption); obtain ⟨ad521, e521, hx521_0⟩ := Kd.at_int (Kd.R_reads' HO_7.out).2.2 x151_3 p521 q521; cases e521; replace p521 := eq_true p521; replace q521 := eq_true q521))
              go_roundg k3
              case measure => have := HK1.out; have := HJ10.out; have := HK3.out; omega
              case rel => exact ⟨(wrap64 (x151_3 + 1)), (by first | rfl | (simp; done) | (simp [*]; done)), H', ⟨by have := HK1.out; have := HJ10.out; have := HK3.out; omega⟩, ⟨pr HO_7.out⟩, ⟨pr HO_149.out⟩, ⟨pv HO_475002.out⟩, ⟨pk BK468.out⟩, ⟨pk BK474.out⟩, ⟨pb HB⟩⟩
             ·rw [if_neg c217] at H
              exact Bool.noConfusion ((Option.some.inj H).trans hrT.out)
            ·rw [if_neg c216] at H
             exact absurd H (by simp)
           ·replace c215 := Bool.eq_false_iff.mpr c215
            subst c215
            have H1 : (some false) = some r := by rw [if_neg (show ¬ (false = true) by decide)] at H; exact H
            exact Bool.noConfusion ((Option.some.inj H1).trans hrT.out)
          ·rw [if_neg c213] at H
           exact absurd H (by simp)
         ·rw [if_neg c212] at H
          exact absurd H (by simp)
        ·rw [if_neg c211] at H
         have c211b0 : decide (x151_3 < (x6_1.length : Int)) = false := decide_eq_false c211
         clear c211
         replace H := Option.bind_eq_some_iff.mp H
         obtain ⟨t522, A2320, H⟩ := H
         replace H : (some t522) = some r := H
         have A232 := am A2320
         clear A2320
         obtain rfl := Option.some.inj H
         go_wp2_with (first | ((with_reducible refine gate_callee (f := 10) rfl ?_); refine gl (some 173) Try.func10 #[] ?_; (with_reducible refine (l12_awake.calls k3  t522 hrT _ A232.out).mono ?_); rintro e w233 ⟨rfl, hb⟩; refine ⟨_, rfl, ?_⟩; replace HO_7 := am (Kd.R_below (pr HO_7.out) hb); replace HO_149 := am (Kd.R_below (pr HO_149.out) hb); replace HO_475002 := am (Kd.V_below (pv HO_475002.out) hb); replace BK468 := am (blk_below (pk BK468.out) hb); replace BK474 := am (blk_below (pk BK474.out) hb); replace HB := am (below_step (pb HB) hb); (try clear hb); (try clear hb2); (try clear hk); (try clear hi)))
         go_ret
         exact ⟨by first | rfl | (simp [errW_none, errW_some] <;> rfl) | (simp [*, errW_none, errW_some] <;> rfl), pb HB⟩
end Go.Proofs.Ytojpmjkphgjmgaa.H
