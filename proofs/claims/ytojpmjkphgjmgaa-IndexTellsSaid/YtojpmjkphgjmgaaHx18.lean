-- laid by wip/hyb.py (the kit's printer with turns of ours)
import Derived.Test.YtojpmjkphgjmgaaHx0
import Derived.Test.YtojpmjkphgjmgaaHx4
import Derived.Test.YtojpmjkphgjmgaaHx7
import Derived.Test.YtojpmjkphgjmgaaHx9
import Derived.Test.YtojpmjkphgjmgaaHx10
import Derived.Test.YtojpmjkphgjmgaaHx11
import Derived.Test.YtojpmjkphgjmgaaHx12
import Derived.Test.YtojpmjkphgjmgaaHx14
import Derived.Test.YtojpmjkphgjmgaaHx15
import Derived.Test.YtojpmjkphgjmgaaHx16
import Derived.Test.YtojpmjkphgjmgaaHx17
namespace Go.Proofs.Ytojpmjkphgjmgaa.H
open Go.RowKit Go.Proofs.YtojpmjkphgjmgaaW.PrintWords Go.Proofs.YtojpmjkphgjmgaaW.PrintLast Go.Proofs.YtojpmjkphgjmgaaW.PrintMore Go.Proofs.YtojpmjkphgjmgaaW.Sq
attribute [local go_sem] max2_int min2_int max_two min_two max_three min_three max_four min_four   -- for this text's walks alone
set_option linter.unusedVariables false
set_option linter.unusedSimpArgs false

/-! ### samphirelaw12_IndexTells: function 3 -/
mutual
def samphirelaw12_IndexTells.j0 : Nat → ByteArray → Int → Bool → Int → Int → List (S60) → Int → Int → List (S46) → Option (Bool)
 | 0, _, _, _, _, _, _, _, _, _ => none
 | k + 1, x1, x2, x29, x397000, x397001, x397002, x403000, x403001, x403002 => if x29 = true then ((samphirelaw12_awake.f k).bind fun t404 => (some t404)) else ((samphireref12_Right.f k x403000 x403001 x403002).bind fun t405 => ((index_Get.f k x397000 x397001 x397002 x1).bind fun bt406 => ((index_Put.f k x397000 x397001 x397002 x1 x2).bind fun bt408 => ((index_Delete.f k x397000 x397001 x397002 x1).bind fun bt415 => ((index_Right.f k x397000 x397001 x397002).bind fun t422 => (if (t422 != t405) = true then (some false) else (if t405 = true then ((samphireref12_Find.f k x403000 x403001 x403002 x1).bind fun t437 => ((index_Many.f k x397000 x397001 x397002).bind fun t438 => ((samphireref12_Many.f k x403000 x403001 x403002).bind fun t439 => (if t438 = t439 then (if (bt406.2 != (decide (t437 ≥ 0))) = true then (samphirelaw12_IndexTells.j1 k x1 x2 bt408.2.2.2 bt415.2.2.2 true x403000 x403001 x403002 bt408.1 bt408.2.1 bt408.2.2.1 bt415.1 bt415.2.1 bt415.2.2.1) else (if t437 ≥ 0 then (if 0 ≤ t437 then (if t437 < (x403002.length : Int) then (if bt406.1 = ((rd_T46 x403002 t437).f2) then (if t437 < 0 then (samphirelaw12_IndexTells.j1 k x1 x2 bt408.2.2.2 bt415.2.2.2 (bt406.1 != 0) x403000 x403001 x403002 bt408.1 bt408.2.1 bt408.2.2.1 bt415.1 bt415.2.1 bt415.2.2.1) else (samphirelaw12_IndexTells.j1 k x1 x2 bt408.2.2.2 bt415.2.2.2 false x403000 x403001 x403002 bt408.1 bt408.2.1 bt408.2.2.1 bt415.1 bt415.2.1 bt415.2.2.1)) else (samphirelaw12_IndexTells.j1 k x1 x2 bt408.2.2.2 bt415.2.2.2 true x403000 x403001 x403002 bt408.1 bt408.2.1 bt408.2.2.1 bt415.1 bt415.2.1 bt415.2.2.1)) else (none)) else (none)) else (if t437 < 0 then (samphirelaw12_IndexTells.j1 k x1 x2 bt408.2.2.2 bt415.2.2.2 (bt406.1 != 0) x403000 x403001 x403002 bt408.1 bt408.2.1 bt408.2.2.1 bt415.1 bt415.2.1 bt415.2.2.1) else (samphirelaw12_IndexTells.j1 k x1 x2 bt408.2.2.2 bt415.2.2.2 false x403000 x403001 x403002 bt408.1 bt408.2.1 bt408.2.2.1 bt415.1 bt415.2.1 bt415.2.2.1)))) else (samphirelaw12_IndexTells.j1 k x1 x2 bt408.2.2.2 bt415.2.2.2 true x403000 x403001 x403002 bt408.1 bt408.2.1 bt408.2.2.1 bt415.1 bt415.2.1 bt415.2.2.1))))) else ((index_Many.f k x397000 x397001 x397002).bind fun t423 => (if t423 = 0 then (if bt406.1 = 0 then (if bt406.2 = true then (some false) else (if bt408.2.2.2 = 1 then (if bt415.2.2.2 = 1 then ((samphirelaw12_Ref.f k bt408.1 bt408.2.1 bt408.2.2.1).bind fun bt424 => ((samphireref12_Same.f k bt424.1 bt424.2.1 bt424.2.2 x403000 x403001 x403002).bind fun t429 => (if t429 = true then ((samphirelaw12_Ref.f k bt415.1 bt415.2.1 bt415.2.2.1).bind fun bt430 => ((samphireref12_Same.f k bt430.1 bt430.2.1 bt430.2.2 x403000 x403001 x403002).bind fun t435 => (if t435 = true then ((samphirelaw12_awake.f k).bind fun t436 => (some t436)) else (some false)))) else (some false)))) else (some false)) else (some false))) else (some false)) else (some false))))))))))
def samphirelaw12_IndexTells.j1 : Nat → ByteArray → Int → Int → Int → Bool → Int → Int → List (S46) → Int → Int → List (S60) → Int → Int → List (S60) → Option (Bool)
 | 0, _, _, _, _, _, _, _, _, _, _, _, _, _, _ => none
 | k + 1, x1, x2, x12, x14, x127, x403000, x403001, x403002, x415000, x415001, x415002, x422000, x422001, x422002 => if x127 = true then (some false) else ((samphireref12_Put.f k x403000 x403001 x403002 x1 x2).bind fun bt441 => ((samphireref12_Delete.f k x403000 x403001 x403002 x1).bind fun bt448 => ((samphirelaw12_Ref.f k x415000 x415001 x415002).bind fun bt455 => ((samphireref12_Same.f k bt455.1 bt455.2.1 bt455.2.2 bt441.1 bt441.2.1 bt441.2.2.1).bind fun t460 => (if t460 = true then (if x12 = bt441.2.2.2 then ((samphirelaw12_Ref.f k x422000 x422001 x422002).bind fun bt461 => ((samphireref12_Same.f k bt461.1 bt461.2.1 bt461.2.2 bt448.1 bt448.2.1 bt448.2.2.1).bind fun t466 => (if t466 = true then (if x14 = bt448.2.2.2 then ((samphirelaw12_awake.f k).bind fun t467 => (some t467)) else (some false)) else (some false)))) else (some false)) else (some false))))))
end
def samphirelaw12_IndexTells.f (k : Nat) (a0_0 : Int) (a0_1 : Int) (l0_2 : List (S60)) (a1 : ByteArray) (a2 : Int) : Option (Bool) := (samphirelaw12_Ref.f k a0_0 a0_1 l0_2).bind fun bt397 => ((samphireref12_Small.f k bt397.1 bt397.2.1 bt397.2.2).bind fun t403 => (if t403 = true then (samphirelaw12_IndexTells.j0 k a1 a2 (decide ((a1.size : Int) > 100)) a0_0 a0_1 l0_2 bt397.1 bt397.2.1 bt397.2.2) else (samphirelaw12_IndexTells.j0 k a1 a2 true a0_0 a0_1 l0_2 bt397.1 bt397.2.1 bt397.2.2)))
theorem samphirelaw12_IndexTells.mono_l : ∀ k, (∀ y0 y1 y2 y3 y4 y5 y6 y7 y8, LeO (samphirelaw12_IndexTells.j0 k y0 y1 y2 y3 y4 y5 y6 y7 y8) (samphirelaw12_IndexTells.j0 (k + 1) y0 y1 y2 y3 y4 y5 y6 y7 y8)) ∧ (∀ y0 y1 y2 y3 y4 y5 y6 y7 y8 y9 y10 y11 y12 y13, LeO (samphirelaw12_IndexTells.j1 k y0 y1 y2 y3 y4 y5 y6 y7 y8 y9 y10 y11 y12 y13) (samphirelaw12_IndexTells.j1 (k + 1) y0 y1 y2 y3 y4 y5 y6 y7 y8 y9 y10 y11 y12 y13))
 | 0 => ⟨fun _ _ _ _ _ _ _ _ _ r h => by simp [samphirelaw12_IndexTells.j0] at h, fun _ _ _ _ _ _ _ _ _ _ _ _ _ _ r h => by simp [samphirelaw12_IndexTells.j1] at h⟩
 | k + 1 => by
  obtain ⟨ih0, ih1⟩ := samphirelaw12_IndexTells.mono_l k
  refine ⟨?_, ?_⟩
  ·intro y0 y1 y2 y3 y4 y5 y6 y7 y8
   unfold samphirelaw12_IndexTells.j0
   repeat' first
   | (with_reducible exact ih0 _ _ _ _ _ _ _ _ _)
   | (with_reducible exact ih1 _ _ _ _ _ _ _ _ _ _ _ _ _ _)
   | (with_reducible exact index_Delete.mono _ _ _ _ _)
   | (with_reducible exact index_Get.mono _ _ _ _ _)
   | (with_reducible exact index_Many.mono _ _ _ _)
   | (with_reducible exact index_Put.mono _ _ _ _ _ _)
   | (with_reducible exact index_Right.mono _ _ _ _)
   | (with_reducible exact samphirelaw12_Ref.mono _ _ _ _)
   | (with_reducible exact samphirelaw12_awake.mono _)
   | (with_reducible exact samphireref12_Delete.mono _ _ _ _ _)
   | (with_reducible exact samphireref12_Find.mono _ _ _ _ _)
   | (with_reducible exact samphireref12_Many.mono _ _ _ _)
   | (with_reducible exact samphireref12_Put.mono _ _ _ _ _ _)
   | (with_reducible exact samphireref12_Right.mono _ _ _ _)
   | (with_reducible exact samphireref12_Same.mono _ _ _ _ _ _ _)
   | (with_reducible exact samphireref12_Small.mono _ _ _ _)
   | (with_reducible exact LeO.refl _)
   | (with_reducible exact LeO.none _)
   | (with_reducible refine LeO.ite ?_ ?_)
   | (with_reducible refine LeO.bind ?_ (fun _ => ?_))
   | exact ih0 _ _ _ _ _ _ _ _ _
   | exact ih1 _ _ _ _ _ _ _ _ _ _ _ _ _ _
   | exact index_Delete.mono _ _ _ _ _
   | exact index_Get.mono _ _ _ _ _
   | exact index_Many.mono _ _ _ _
   | exact index_Put.mono _ _ _ _ _ _
   | exact index_Right.mono _ _ _ _
   | exact samphirelaw12_Ref.mono _ _ _ _
   | exact samphirelaw12_awake.mono _
   | exact samphireref12_Delete.mono _ _ _ _ _
   | exact samphireref12_Find.mono _ _ _ _ _
   | exact samphireref12_Many.mono _ _ _ _
   | exact samphireref12_Put.mono _ _ _ _ _ _
   | exact samphireref12_Right.mono _ _ _ _
   | exact samphireref12_Same.mono _ _ _ _ _ _ _
   | exact samphireref12_Small.mono _ _ _ _
   | exact LeO.none _
   | refine LeO.ite ?_ ?_
   | refine LeO.bind ?_ (fun _ => ?_)
  ·intro y0 y1 y2 y3 y4 y5 y6 y7 y8 y9 y10 y11 y12 y13
   unfold samphirelaw12_IndexTells.j1
   repeat' first
   | (with_reducible exact ih0 _ _ _ _ _ _ _ _ _)
   | (with_reducible exact ih1 _ _ _ _ _ _ _ _ _ _ _ _ _ _)
   | (with_reducible exact index_Delete.mono _ _ _ _ _)
   | (with_reducible exact index_Get.mono _ _ _ _ _)
   | (with_reducible exact index_Many.mono _ _ _ _)
   | (with_reducible exact index_Put.mono _ _ _ _ _ _)
   | (with_reducible exact index_Right.mono _ _ _ _)
   | (with_reducible exact samphirelaw12_Ref.mono _ _ _ _)
   | (with_reducible exact samphirelaw12_awake.mono _)
   | (with_reducible exact samphireref12_Delete.mono _ _ _ _ _)
   | (with_reducible exact samphireref12_Find.mono _ _ _ _ _)
   | (with_reducible exact samphireref12_Many.mono _ _ _ _)
   | (with_reducible exact samphireref12_Put.mono _ _ _ _ _ _)
   | (with_reducible exact samphireref12_Right.mono _ _ _ _)
   | (with_reducible exact samphireref12_Same.mono _ _ _ _ _ _ _)
   | (with_reducible exact samphireref12_Small.mono _ _ _ _)
   | (with_reducible exact LeO.refl _)
   | (with_reducible exact LeO.none _)
   | (with_reducible refine LeO.ite ?_ ?_)
   | (with_reducible refine LeO.bind ?_ (fun _ => ?_))
   | exact ih0 _ _ _ _ _ _ _ _ _
   | exact ih1 _ _ _ _ _ _ _ _ _ _ _ _ _ _
   | exact index_Delete.mono _ _ _ _ _
   | exact index_Get.mono _ _ _ _ _
   | exact index_Many.mono _ _ _ _
   | exact index_Put.mono _ _ _ _ _ _
   | exact index_Right.mono _ _ _ _
   | exact samphirelaw12_Ref.mono _ _ _ _
   | exact samphirelaw12_awake.mono _
   | exact samphireref12_Delete.mono _ _ _ _ _
   | exact samphireref12_Find.mono _ _ _ _ _
   | exact samphireref12_Many.mono _ _ _ _
   | exact samphireref12_Put.mono _ _ _ _ _ _
   | exact samphireref12_Right.mono _ _ _ _
   | exact samphireref12_Same.mono _ _ _ _ _ _ _
   | exact samphireref12_Small.mono _ _ _ _
   | exact LeO.none _
   | refine LeO.ite ?_ ?_
   | refine LeO.bind ?_ (fun _ => ?_)
theorem samphirelaw12_IndexTells.mono : ∀ a0 a1 a2 a3 a4 k, LeO (samphirelaw12_IndexTells.f k a0 a1 a2 a3 a4) (samphirelaw12_IndexTells.f (k + 1) a0 a1 a2 a3 a4) := by
 intro a0 a1 a2 a3 a4 k
 obtain ⟨ih0, ih1⟩ := samphirelaw12_IndexTells.mono_l k
 unfold samphirelaw12_IndexTells.f
 repeat' first
   | (with_reducible exact ih0 _ _ _ _ _ _ _ _ _)
   | (with_reducible exact ih1 _ _ _ _ _ _ _ _ _ _ _ _ _ _)
   | (with_reducible exact index_Delete.mono _ _ _ _ _)
   | (with_reducible exact index_Get.mono _ _ _ _ _)
   | (with_reducible exact index_Many.mono _ _ _ _)
   | (with_reducible exact index_Put.mono _ _ _ _ _ _)
   | (with_reducible exact index_Right.mono _ _ _ _)
   | (with_reducible exact samphirelaw12_Ref.mono _ _ _ _)
   | (with_reducible exact samphirelaw12_awake.mono _)
   | (with_reducible exact samphireref12_Delete.mono _ _ _ _ _)
   | (with_reducible exact samphireref12_Find.mono _ _ _ _ _)
   | (with_reducible exact samphireref12_Many.mono _ _ _ _)
   | (with_reducible exact samphireref12_Put.mono _ _ _ _ _ _)
   | (with_reducible exact samphireref12_Right.mono _ _ _ _)
   | (with_reducible exact samphireref12_Same.mono _ _ _ _ _ _ _)
   | (with_reducible exact samphireref12_Small.mono _ _ _ _)
   | (with_reducible exact LeO.refl _)
   | (with_reducible exact LeO.none _)
   | (with_reducible refine LeO.ite ?_ ?_)
   | (with_reducible refine LeO.bind ?_ (fun _ => ?_))
   | exact ih0 _ _ _ _ _ _ _ _ _
   | exact ih1 _ _ _ _ _ _ _ _ _ _ _ _ _ _
   | exact index_Delete.mono _ _ _ _ _
   | exact index_Get.mono _ _ _ _ _
   | exact index_Many.mono _ _ _ _
   | exact index_Put.mono _ _ _ _ _ _
   | exact index_Right.mono _ _ _ _
   | exact samphirelaw12_Ref.mono _ _ _ _
   | exact samphirelaw12_awake.mono _
   | exact samphireref12_Delete.mono _ _ _ _ _
   | exact samphireref12_Find.mono _ _ _ _ _
   | exact samphireref12_Many.mono _ _ _ _
   | exact samphireref12_Put.mono _ _ _ _ _ _
   | exact samphireref12_Right.mono _ _ _ _
   | exact samphireref12_Same.mono _ _ _ _ _ _ _
   | exact samphireref12_Small.mono _ _ _ _
   | exact LeO.none _
   | refine LeO.ite ?_ ?_
   | refine LeO.bind ?_ (fun _ => ?_)
def samphirelaw12_IndexTells.T11 : Bool × List (List Nat × List Nat) := (true, [([], []), ([0], [0]), ([1], [1]), ([2, 1], [2]), ([3], [3]), ([4, 3], [3, 4]), ([3, 5], [3, 5]), ([6, 3], [6]), ([7], [7]), ([8, 7], [7, 8]), ([7, 9], [7, 9]), ([10, 7], [10]), ([11], [11]), ([12, 11], [11, 12]), ([11, 13], [11, 13]), ([14, 11], [14]), ([15], [15]), ([16, 15], [15, 16]), ([15, 17], [15, 17]), ([18, 15], [18]), ([19], [19]), ([20, 19, 19], [19, 20]), ([19], [19]), ([21, 22, 21, 19], [19, 21, 22]), ([19, 23], [19, 23]), ([24, 23], [24]), ([25], [25]), ([26, 25, 25], [25, 26]), ([25], [25]), ([27, 28, 27, 25], [25, 27, 28]), ([25, 29], [25, 29]), ([30, 29], [30]), ([31, 31], [31]), ([31, 32], [31, 32]), ([33, 32, 0, 1, 2, 3, 4, 5, 6, 7, 8, 9, 10, 11, 12, 13, 14, 15, 16, 17, 18, 19, 20, 21, 22, 23, 24, 25, 26, 27, 28, 29, 30, 31, 32, 33], [33])])
def samphirelaw12_IndexTells.B11 : List Nat := [0, 1, 3, 7, 15, 31, 63, 127, 255, 511, 1023, 2047, 4095, 8191, 16383, 32767, 65535, 131071, 262143, 524287, 1048575, 2097151, 1048575, 8388607, 16777215, 33554431, 67108863, 134217727, 67108863, 536870911, 1073741823, 2147483647, 4294967295, 8589934591, 17179869183]
theorem samphirelaw12_IndexTells.tab11 : rtab .any (opsOf Try.f3 11) = samphirelaw12_IndexTells.T11 := by kernel_rfl
theorem samphirelaw12_IndexTells.bits11 : waitsOk samphirelaw12_IndexTells.T11.2 samphirelaw12_IndexTells.B11 = true := by kernel_rfl
def samphirelaw12_IndexTells.T13 : Bool × List (List Nat × List Nat) := (true, [([], []), ([0], [0]), ([], []), ([2, 1], [2]), ([1, 3], [1, 3]), ([4, 3], [4]), ([5], [5]), ([5], [5]), ([7, 5], [5, 7]), ([6, 8, 5], [5, 6, 8]), ([5, 9], [5, 9]), ([10, 5], [10]), ([11], [11]), ([12, 11], [11, 12]), ([13, 11, 11], [11, 13]), ([14], [14]), ([14], [14]), ([16, 14], [14, 16]), ([14], [14]), ([17, 18, 14], [14, 17, 18]), ([19, 14], [14, 19]), ([20, 14], [14, 20]), ([15, 21, 14], [14, 15, 21]), ([14, 22, 11], [11, 14, 22]), ([11, 23], [11, 23]), ([24, 14], [24]), ([25], [25]), ([26, 25], [25, 26]), ([27, 25, 25], [25, 27]), ([28], [28]), ([29, 28], [28, 29]), ([28, 30, 25], [25, 28, 30]), ([25, 31], [25, 31])])
def samphirelaw12_IndexTells.B13 : List Nat := [0, 1, 0, 7, 15, 31, 63, 63, 191, 511, 1023, 2047, 4095, 8191, 16383, 32767, 32767, 98303, 32767, 491519, 1015807, 2064383, 4194303, 8388607, 16777215, 33554431, 67108863, 134217727, 268435455, 536870911, 1073741823, 2147483647, 4294967295]
theorem samphirelaw12_IndexTells.tab13 : rtab .any (opsOf Try.f3 13) = samphirelaw12_IndexTells.T13 := by kernel_rfl
theorem samphirelaw12_IndexTells.bits13 : waitsOk samphirelaw12_IndexTells.T13.2 samphirelaw12_IndexTells.B13 = true := by kernel_rfl
def samphirelaw12_IndexTells.T17 : Bool × List (List Nat × List Nat) := (true, [([], []), ([0], [0]), ([], []), ([1, 2, 1], [1, 2]), ([3, 3], [3]), ([4], [4]), ([4], [4]), ([5, 6, 4], [4, 5, 6]), ([4, 7], [4, 7]), ([8, 4], [8]), ([9], [9]), ([10, 9, 9], [9, 10]), ([9], [9]), ([11, 12, 11, 9], [9, 11, 12]), ([9, 13], [9, 13]), ([14, 13], [14]), ([15], [15]), ([15], [15]), ([16, 17, 15], [15, 16, 17]), ([15, 18], [15, 18]), ([19, 15], [19]), ([20, 20], [20]), ([20, 21], [20, 21]), ([22, 21, 0, 1, 2, 3, 4, 5, 6, 7, 8, 9, 10, 11, 12, 13, 14, 15, 16, 17, 18, 19, 20, 21, 22], [22])])
def samphirelaw12_IndexTells.B17 : List Nat := [0, 1, 0, 7, 15, 31, 31, 127, 255, 511, 1023, 2047, 1023, 8191, 16383, 32767, 65535, 65535, 262143, 524287, 1048575, 2097151, 4194303, 8388607]
theorem samphirelaw12_IndexTells.tab17 : rtab .any (opsOf Try.f3 17) = samphirelaw12_IndexTells.T17 := by kernel_rfl
theorem samphirelaw12_IndexTells.bits17 : waitsOk samphirelaw12_IndexTells.T17.2 samphirelaw12_IndexTells.B17 = true := by kernel_rfl
theorem samphirelaw12_IndexTells.j1_true {k : Nat} {x1 : ByteArray} {x2 e g p q s t u v : Int} {l : List S46} {m n : List S60} {r : Bool} (H : samphirelaw12_IndexTells.j1 k x1 x2 e g true p q l s t m u v n = some r) (hrT : Aside0 (r = true)) : False := by
 cases k with
 | zero => simp [samphirelaw12_IndexTells.j1] at H
 | succ k =>
  rw [samphirelaw12_IndexTells.j1] at H; rw [if_pos rfl] at H
  have h := hrT.out
  rw [h] at H; simp at H
set_option maxHeartbeats 8000000 in
set_option maxRecDepth 100000 in
theorem samphirelaw12_IndexTells.calls (k : Nat) (a0_0 : Int) (a0_1 : Int) (A0_2 : Option Addr) (c0_2 : Nat) (l0_2 : List (S60)) (a1 : ByteArray) (a2 : Int) (r : Bool) (hrT : Aside0 (r = true)) (w : World) (hr0_2 : Kd.C k60 w A0_2 l0_2.length l0_2) (hc0_2 : l0_2.length ≤ c0_2) (h : samphirelaw12_IndexTells.f k a0_0 a0_1 l0_2 a1 a2 = some r) :
  Calls Try.prog 3 #[.agg #[.int .u64 a0_0, .int .u64 a0_1, .slice A0_2 l0_2.length c0_2], .string a1, .int .i64 a2] w fun e w' => e = .returned (.bool r) ∧ Below w.heap.size w w' := by
 have hu27 := Try.underlying27
 have hu30 := Try.underlying30
 have HR0_2 := Aside0.mk hr0_2
 have HC0_2 := Aside0.mk hc0_2
 clear hr0_2 hc0_2
 have HB := Aside0.mk (Below.refl w.heap.size w)
 have H : ((samphirelaw12_Ref.f k a0_0 a0_1 l0_2).bind fun bt397 => ((samphireref12_Small.f k bt397.1 bt397.2.1 bt397.2.2).bind fun t403 => (if t403 = true then (samphirelaw12_IndexTells.j0 k a1 a2 (decide ((a1.size : Int) > 100)) a0_0 a0_1 l0_2 bt397.1 bt397.2.1 bt397.2.2) else (samphirelaw12_IndexTells.j0 k a1 a2 true a0_0 a0_1 l0_2 bt397.1 bt397.2.1 bt397.2.2)))) = some r := h
 clear h
 replace H := Option.bind_eq_some_iff.mp H
 obtain ⟨⟨t397, t398, t399⟩, A40, H⟩ := H
 replace H : ((samphireref12_Small.f k t397 t398 t399).bind fun t403 => (if t403 = true then (samphirelaw12_IndexTells.j0 k a1 a2 (decide ((a1.size : Int) > 100)) a0_0 a0_1 l0_2 t397 t398 t399) else (samphirelaw12_IndexTells.j0 k a1 a2 true a0_0 a0_1 l0_2 t397 t398 t399))) = some r := H
 have A4 := Aside0.mk A40
 clear A40
 have HC5 := Aside0.mk H
 clear H
 go_enter Try.func3, Try.ntmps3
 go_upto_region 2 with (first | ((with_reducible refine gate_dst (N := 3) rfl ?_); (try (refine gate_guard (by rfl) ?_; dsimp only)); refine box_event ?hg (N := 3) ?hd (cs := #[.int .u64 a0_0, .int .u64 a0_1, .slice A0_2 l0_2.length c0_2]) (t := 27) ?hr ?_; (case hd => rfl); (case hg => rfl); (case hr => first | (go_simp; done) | (go_simp; rfl)); intro gb396 hg w6 hbox hb; have n0_ := Aside0.mk (below_step (pb HB) hb); have n1_ := Aside0.mk (hbox); have n2_ := Aside0.mk ((pg hg HB : w.heap.size ≤ gb396)); have n3_ := Aside0.mk ((pg hg HB : w.heap.size ≤ gb396)); clear HB; have HB := n0_; have BK396 := n1_; have GW396 := n2_; have GE396 := n3_; clear n0_ n1_ n2_ n3_; clear hb hbox hg; have hcz7_0 := ce BK396 0; have hcz7_1 := ce BK396 1; have hcz7_2 := ce BK396 2; have hfz7_0 := fz BK396 0; have hfz7_1 := fz BK396 1; have hfz7_2 := fz BK396 2) | ((with_reducible refine gate_callee (f := 8) rfl ?_); refine gl (some 21) Try.func8 #[.agg #[.int .u64 a0_0, .int .u64 a0_1, .slice A0_2 l0_2.length c0_2]] ?_; (with_reducible refine (samphirelaw12_Ref.calls k a0_0 a0_1 _ _ l0_2 t397 t398 t399 _ ?side1 ?side2 A4.out).mono ?_); (case side1 => repeat (first | exact (Kd.C_below HR0_2.out HB.out) | (with_reducible refine Kd.C_alloc ?_ _) | (with_reducible refine Kd.C_drewN ?_ _) | (with_reducible refine Kd.C_drew ?_))); (case side2 => exact HC0_2.out); rintro e w8 ⟨v400, rfl, ho0, hb⟩; refine ⟨_, rfl, ?_⟩; have n0_ := Aside0.mk (Kd.R_lower ho0 (below_size (pb HB))); have n1_ := Aside0.mk (blk_below (pk BK396.out) hb); have n2_ := Aside0.mk (below_step (pb HB) hb); clear BK396; clear HB; have HO401 := n0_; have BK396 := n1_; have HB := n2_; clear n0_ n1_ n2_; (try clear hb); (try clear hb2); (try clear hk); (try clear hi); (try clear ho0)) | ((with_reducible refine gate_dst (N := 7) rfl ?_); (try (refine gate_guard (by rfl) ?_; dsimp only)); refine box_event ?hg (N := 7) ?hd (cs := #[.int .u64 0, .int .u64 0, .slice none 0 0]) (t := 30) ?hr ?_; (case hd => rfl); (case hg => rfl); (case hr => first | (go_simp; done) | (go_simp; rfl)); intro gb402 hg w9 hbox hb; have n0_ := Aside0.mk (Kd.R_below (pr HO401.out) hb); have n1_ := Aside0.mk (blk_below (pk BK396.out) hb); have n2_ := Aside0.mk (below_step (pb HB) hb); have n3_ := Aside0.mk (hbox); have n4_ := Aside0.mk ((pg hg HB : w.heap.size ≤ gb402)); have n5_ := Aside0.mk ((pg hg HB : w.heap.size ≤ gb402)); have n6_ := Aside0.mk ((pl hg (pk BK396.out) : gb396 ≠ gb402)); have n7_ := Aside0.mk ((pl' hg (pk BK396.out) : gb402 ≠ gb396)); clear HO401; clear BK396; clear HB; have HO401 := n0_; have BK396 := n1_; have HB := n2_; have BK402 := n3_; have GW402 := n4_; have GE402 := n5_; have NB396_402 := n6_; have NB402_396 := n7_; clear n0_ n1_ n2_ n3_ n4_ n5_ n6_ n7_; clear hb hbox hg; have hnb10 := NB402_396.out; have hnc10 := NB396_402.out; have hcz11_0 := ce BK402 0; have hcz11_1 := ce BK402 1; have hcz11_2 := ce BK402 2; have hfz11_0 := fz BK402 0; have hfz11_1 := fz BK402 1; have hfz11_2 := fz BK402 2; obtain ⟨Ao12, co12, eo12⟩ := Kd.R_slice HO401.out; subst eo12))
 (try simp only [Act.put, List.setIfInBounds_toArray, List.set_cons_zero, List.set_cons_succ])
 go_cut [29] (fun v29 wc => ∃ (kq : Nat) (x29_4 : Bool), v29 = .bool x29_4 ∧ Aside0 (samphirelaw12_IndexTells.j0 kq a1 a2 x29_4 a0_0 a0_1 l0_2 t397 t398 t399 = some r) ∧ Aside0 (kq ≤ k) ∧ Aside0 (Kd.R k46 46 wc w.heap.size (fun _ => True) (.slice Ao12 t399.length co12) t399) ∧ Aside0 (wc.heap[gb396]? = some (.cells #[.int .u64 a0_0, .int .u64 a0_1, (.slice A0_2 l0_2.length c0_2)] 27 (0, 0))) ∧ Aside0 (wc.heap[gb402]? = some (.cells #[.int .u64 t397, .int .u64 t398, (.slice Ao12 t399.length co12)] 30 (0, 0))) ∧ Aside0 (Below w.heap.size w wc))
 case first =>
  have H := HC5.out
  clear HC5
  replace H := Option.bind_eq_some_iff.mp H
  obtain ⟨t403, A130, H⟩ := H
  replace H : (if t403 = true then (samphirelaw12_IndexTells.j0 k a1 a2 (decide ((a1.size : Int) > 100)) a0_0 a0_1 l0_2 t397 t398 t399) else (samphirelaw12_IndexTells.j0 k a1 a2 true a0_0 a0_1 l0_2 t397 t398 t399)) = some r := H
  have A13 := Aside0.mk A130
  clear A130
  by_cases c14 : t403 = true
  ·subst c14
   have H1 : (samphirelaw12_IndexTells.j0 k a1 a2 (decide ((a1.size : Int) > 100)) a0_0 a0_1 l0_2 t397 t398 t399) = some r := by rw [if_pos rfl] at H; exact H
   clear H
   have H := H1
   clear H1
   have H' := Aside0.mk H
   clear H
   have hnb15 := NB402_396.out
   have hnc15 := NB396_402.out
   have hcz16_0 := ce BK402 0
   have hcz16_1 := ce BK402 1
   have hcz16_2 := ce BK402 2
   have hfz16_0 := fz BK402 0
   have hfz16_1 := fz BK402 1
   have hfz16_2 := fz BK402 2
   go_wp2_with (first | ((with_reducible refine gate_callee (f := 9) rfl ?_); refine gl (some 23) Try.func9 #[.agg #[.int .u64 t397, .int .u64 t398, .slice Ao12 t399.length co12]] ?_; (with_reducible refine (samphireref12_Small.calls k t397 t398 _ _ t399 true _ ?side1 ?side2 A13.out).mono ?_); (case side1 => refine (Kd.R_reads' (e := 46) (base := w.heap.size) (ok := fun k_ => True) (n := t399.length) (c := co12) ?_).2.2; exact (pr ((Kd.R_mono (Kd.R_far (p := ⟨gb402, 2, none⟩) (Kd.R_far (p := ⟨gb402, 1, none⟩) (Kd.R_far (p := ⟨gb402, 0, none⟩) (Kd.R_types HO401.out BK402.out (by decide)) (fun _ hk => hk.2) (.int .u64 t397)) (fun _ hk => hk.2) (.int .u64 t398)) (fun _ hk => hk.2) (.slice Ao12 t399.length co12)) (fun _ h_ => h_.1))))); (case side2 => exact (Kd.R_reads' HO401.out).2.1); rintro e w17 ⟨rfl, hb⟩; refine ⟨_, rfl, ?_⟩; replace HO401 := Aside0.mk (Kd.R_below (pr ((Kd.R_mono (Kd.R_far (p := ⟨gb402, 2, none⟩) (Kd.R_far (p := ⟨gb402, 1, none⟩) (Kd.R_far (p := ⟨gb402, 0, none⟩) (Kd.R_types HO401.out BK402.out (by decide)) (fun _ hk => hk.2) (.int .u64 t397)) (fun _ hk => hk.2) (.int .u64 t398)) (fun _ hk => hk.2) (.slice Ao12 t399.length co12)) (fun _ h_ => h_.1)))) hb); replace BK396 := Aside0.mk (blk_below (g := gb396) (o := .cells #[.int .u64 a0_0, .int .u64 a0_1, .slice A0_2 l0_2.length c0_2] 27 (0, 0)) (by refine pk ?_; refine blk_far ?_ NB396_402.out _; refine pk ?_; refine blk_far ?_ NB396_402.out _; refine pk ?_; refine blk_far ?_ NB396_402.out _; refine pk ?_; exact BK396.out) hb); replace BK402 := Aside0.mk (blk_below (g := gb402) (o := .cells #[.int .u64 t397, .int .u64 t398, .slice Ao12 t399.length co12] 30 (0, 0)) (by refine pk ?_; refine blk_put (cs := #[.int .u64 t397, .int .u64 t398, .slice none 0 0]) ?_ 2 _ rfl; refine pk ?_; refine blk_put (cs := #[.int .u64 t397, .int .u64 0, .slice none 0 0]) ?_ 1 _ rfl; refine pk ?_; refine blk_put (cs := #[.int .u64 0, .int .u64 0, .slice none 0 0]) ?_ 0 _ rfl; refine pk ?_; exact BK402.out) hb); replace HB := Aside0.mk (below_step (pb HB) hb); (try clear hb); (try clear hb2); (try clear hk); (try clear hi)))
   go_meet
   case rel => exact ⟨_, (decide ((a1.size : Int) > 100)), (by first | rfl | (simp; done) | (simp [*]; done)), H', ⟨by first | omega | exact Nat.le_refl _⟩, ⟨pr HO401.out⟩, ⟨pk BK396.out⟩, ⟨pk BK402.out⟩, ⟨pb HB⟩⟩
  ·replace c14 := Bool.eq_false_iff.mpr c14
   subst c14
   have H1 : (samphirelaw12_IndexTells.j0 k a1 a2 true a0_0 a0_1 l0_2 t397 t398 t399) = some r := by rw [if_neg (show ¬ (false = true) by decide)] at H; exact H
   clear H
   have H := H1
   clear H1
   have H' := Aside0.mk H
   clear H
   have hnb18 := NB402_396.out
   have hnc18 := NB396_402.out
   have hcz19_0 := ce BK402 0
   have hcz19_1 := ce BK402 1
   have hcz19_2 := ce BK402 2
   have hfz19_0 := fz BK402 0
   have hfz19_1 := fz BK402 1
   have hfz19_2 := fz BK402 2
   go_wp2_with (first | ((with_reducible refine gate_callee (f := 9) rfl ?_); refine gl (some 23) Try.func9 #[.agg #[.int .u64 t397, .int .u64 t398, .slice Ao12 t399.length co12]] ?_; (with_reducible refine (samphireref12_Small.calls k t397 t398 _ _ t399 false _ ?side1 ?side2 A13.out).mono ?_); (case side1 => refine (Kd.R_reads' (e := 46) (base := w.heap.size) (ok := fun k_ => True) (n := t399.length) (c := co12) ?_).2.2; exact (pr ((Kd.R_mono (Kd.R_far (p := ⟨gb402, 2, none⟩) (Kd.R_far (p := ⟨gb402, 1, none⟩) (Kd.R_far (p := ⟨gb402, 0, none⟩) (Kd.R_types HO401.out BK402.out (by decide)) (fun _ hk => hk.2) (.int .u64 t397)) (fun _ hk => hk.2) (.int .u64 t398)) (fun _ hk => hk.2) (.slice Ao12 t399.length co12)) (fun _ h_ => h_.1))))); (case side2 => exact (Kd.R_reads' HO401.out).2.1); rintro e w20 ⟨rfl, hb⟩; refine ⟨_, rfl, ?_⟩; replace HO401 := Aside0.mk (Kd.R_below (pr ((Kd.R_mono (Kd.R_far (p := ⟨gb402, 2, none⟩) (Kd.R_far (p := ⟨gb402, 1, none⟩) (Kd.R_far (p := ⟨gb402, 0, none⟩) (Kd.R_types HO401.out BK402.out (by decide)) (fun _ hk => hk.2) (.int .u64 t397)) (fun _ hk => hk.2) (.int .u64 t398)) (fun _ hk => hk.2) (.slice Ao12 t399.length co12)) (fun _ h_ => h_.1)))) hb); replace BK396 := Aside0.mk (blk_below (g := gb396) (o := .cells #[.int .u64 a0_0, .int .u64 a0_1, .slice A0_2 l0_2.length c0_2] 27 (0, 0)) (by refine pk ?_; refine blk_far ?_ NB396_402.out _; refine pk ?_; refine blk_far ?_ NB396_402.out _; refine pk ?_; refine blk_far ?_ NB396_402.out _; refine pk ?_; exact BK396.out) hb); replace BK402 := Aside0.mk (blk_below (g := gb402) (o := .cells #[.int .u64 t397, .int .u64 t398, .slice Ao12 t399.length co12] 30 (0, 0)) (by refine pk ?_; refine blk_put (cs := #[.int .u64 t397, .int .u64 t398, .slice none 0 0]) ?_ 2 _ rfl; refine pk ?_; refine blk_put (cs := #[.int .u64 t397, .int .u64 0, .slice none 0 0]) ?_ 1 _ rfl; refine pk ?_; refine blk_put (cs := #[.int .u64 0, .int .u64 0, .slice none 0 0]) ?_ 0 _ rfl; refine pk ?_; exact BK402.out) hb); replace HB := Aside0.mk (below_step (pb HB) hb); (try clear hb); (try clear hb2); (try clear hk); (try clear hi)))
   go_meet
   case rel => exact ⟨_, (true), (by first | rfl | (simp; done) | (simp [*]; done)), H', ⟨by first | omega | exact Nat.le_refl _⟩, ⟨pr HO401.out⟩, ⟨pk BK396.out⟩, ⟨pk BK402.out⟩, ⟨pb HB⟩⟩
 case rest =>
  clear HC5
  try clear c1
  try clear p2
  try clear c3
  try clear c8
  try clear c9
  try clear c10
  try clear c14
  try clear c15
  try clear c18
  try clear hcz11_0 hcz11_1 hcz11_2
  try clear hcz16_0 hcz16_1 hcz16_2
  try clear hcz19_0 hcz19_1 hcz19_2
  try clear hcz7_0 hcz7_1 hcz7_2
  try clear hfz11_0 hfz11_1 hfz11_2
  try clear hfz16_0 hfz16_1 hfz16_2
  try clear hfz19_0 hfz19_1 hfz19_2
  try clear hfz7_0 hfz7_1 hfz7_2
  obtain ⟨kq, x29_4, rfl, HA, HJ4, HO_403002, BK396, BK402, HB⟩ := hcut
  cases kq with
  | zero => exact absurd HA.out (by simp [samphirelaw12_IndexTells.j0])
  | succ kj4 =>
   have H := HA.out
   clear HA
   simp only [samphirelaw12_IndexTells.j0] at H
   by_cases c21 : x29_4 = true
   ·subst c21
    have H1 : ((samphirelaw12_awake.f kj4).bind fun t404 => (some t404)) = some r := by rw [if_pos rfl] at H; exact H
    clear H
    have H := H1
    clear H1
    replace H := Option.bind_eq_some_iff.mp H
    obtain ⟨t404, A220, H⟩ := H
    replace H : (some t404) = some r := H
    have A22 := Aside0.mk A220
    clear A220
    obtain rfl := Option.some.inj H
    go_wp2_with (first | ((with_reducible refine gate_callee (f := 10) rfl ?_); refine gl (some 30) Try.func10 #[] ?_; (with_reducible refine (samphirelaw12_awake.calls kj4  t404 hrT _ A22.out).mono ?_); rintro e w23 ⟨rfl, hb⟩; refine ⟨_, rfl, ?_⟩; replace HO_403002 := Aside0.mk (Kd.R_below (pr HO_403002.out) hb); replace BK396 := Aside0.mk (blk_below (pk BK396.out) hb); replace BK402 := Aside0.mk (blk_below (pk BK402.out) hb); replace HB := Aside0.mk (below_step (pb HB) hb); (try clear hb); (try clear hb2); (try clear hk); (try clear hi)))
    go_ret
    exact ⟨by first | rfl | (simp [errW_none, errW_some] <;> rfl) | (simp [*, errW_none, errW_some] <;> rfl), pb HB⟩
   ·replace c21 := Bool.eq_false_iff.mpr c21
    subst c21
    have H1 : ((samphireref12_Right.f kj4 t397 t398 t399).bind fun t405 => ((index_Get.f kj4 a0_0 a0_1 l0_2 a1).bind fun bt406 => ((index_Put.f kj4 a0_0 a0_1 l0_2 a1 a2).bind fun bt408 => ((index_Delete.f kj4 a0_0 a0_1 l0_2 a1).bind fun bt415 => ((index_Right.f kj4 a0_0 a0_1 l0_2).bind fun t422 => (if (t422 != t405) = true then (some false) else (if t405 = true then ((samphireref12_Find.f kj4 t397 t398 t399 a1).bind fun t437 => ((index_Many.f kj4 a0_0 a0_1 l0_2).bind fun t438 => ((samphireref12_Many.f kj4 t397 t398 t399).bind fun t439 => (if t438 = t439 then (if (bt406.2 != (decide (t437 ≥ 0))) = true then (samphirelaw12_IndexTells.j1 kj4 a1 a2 bt408.2.2.2 bt415.2.2.2 true t397 t398 t399 bt408.1 bt408.2.1 bt408.2.2.1 bt415.1 bt415.2.1 bt415.2.2.1) else (if t437 ≥ 0 then (if 0 ≤ t437 then (if t437 < (t399.length : Int) then (if bt406.1 = ((rd_T46 t399 t437).f2) then (if t437 < 0 then (samphirelaw12_IndexTells.j1 kj4 a1 a2 bt408.2.2.2 bt415.2.2.2 (bt406.1 != 0) t397 t398 t399 bt408.1 bt408.2.1 bt408.2.2.1 bt415.1 bt415.2.1 bt415.2.2.1) else (samphirelaw12_IndexTells.j1 kj4 a1 a2 bt408.2.2.2 bt415.2.2.2 false t397 t398 t399 bt408.1 bt408.2.1 bt408.2.2.1 bt415.1 bt415.2.1 bt415.2.2.1)) else (samphirelaw12_IndexTells.j1 kj4 a1 a2 bt408.2.2.2 bt415.2.2.2 true t397 t398 t399 bt408.1 bt408.2.1 bt408.2.2.1 bt415.1 bt415.2.1 bt415.2.2.1)) else (none)) else (none)) else (if t437 < 0 then (samphirelaw12_IndexTells.j1 kj4 a1 a2 bt408.2.2.2 bt415.2.2.2 (bt406.1 != 0) t397 t398 t399 bt408.1 bt408.2.1 bt408.2.2.1 bt415.1 bt415.2.1 bt415.2.2.1) else (samphirelaw12_IndexTells.j1 kj4 a1 a2 bt408.2.2.2 bt415.2.2.2 false t397 t398 t399 bt408.1 bt408.2.1 bt408.2.2.1 bt415.1 bt415.2.1 bt415.2.2.1)))) else (samphirelaw12_IndexTells.j1 kj4 a1 a2 bt408.2.2.2 bt415.2.2.2 true t397 t398 t399 bt408.1 bt408.2.1 bt408.2.2.1 bt415.1 bt415.2.1 bt415.2.2.1))))) else ((index_Many.f kj4 a0_0 a0_1 l0_2).bind fun t423 => (if t423 = 0 then (if bt406.1 = 0 then (if bt406.2 = true then (some false) else (if bt408.2.2.2 = 1 then (if bt415.2.2.2 = 1 then ((samphirelaw12_Ref.f kj4 bt408.1 bt408.2.1 bt408.2.2.1).bind fun bt424 => ((samphireref12_Same.f kj4 bt424.1 bt424.2.1 bt424.2.2 t397 t398 t399).bind fun t429 => (if t429 = true then ((samphirelaw12_Ref.f kj4 bt415.1 bt415.2.1 bt415.2.2.1).bind fun bt430 => ((samphireref12_Same.f kj4 bt430.1 bt430.2.1 bt430.2.2 t397 t398 t399).bind fun t435 => (if t435 = true then ((samphirelaw12_awake.f kj4).bind fun t436 => (some t436)) else (some false)))) else (some false)))) else (some false)) else (some false))) else (some false)) else (some false)))))))))) = some r := by rw [if_neg (show ¬ (false = true) by decide)] at H; exact H
    clear H
    have H := H1
    clear H1
    replace H := Option.bind_eq_some_iff.mp H
    obtain ⟨t405, A240, H⟩ := H
    replace H : ((index_Get.f kj4 a0_0 a0_1 l0_2 a1).bind fun bt406 => ((index_Put.f kj4 a0_0 a0_1 l0_2 a1 a2).bind fun bt408 => ((index_Delete.f kj4 a0_0 a0_1 l0_2 a1).bind fun bt415 => ((index_Right.f kj4 a0_0 a0_1 l0_2).bind fun t422 => (if (t422 != t405) = true then (some false) else (if t405 = true then ((samphireref12_Find.f kj4 t397 t398 t399 a1).bind fun t437 => ((index_Many.f kj4 a0_0 a0_1 l0_2).bind fun t438 => ((samphireref12_Many.f kj4 t397 t398 t399).bind fun t439 => (if t438 = t439 then (if (bt406.2 != (decide (t437 ≥ 0))) = true then (samphirelaw12_IndexTells.j1 kj4 a1 a2 bt408.2.2.2 bt415.2.2.2 true t397 t398 t399 bt408.1 bt408.2.1 bt408.2.2.1 bt415.1 bt415.2.1 bt415.2.2.1) else (if t437 ≥ 0 then (if 0 ≤ t437 then (if t437 < (t399.length : Int) then (if bt406.1 = ((rd_T46 t399 t437).f2) then (if t437 < 0 then (samphirelaw12_IndexTells.j1 kj4 a1 a2 bt408.2.2.2 bt415.2.2.2 (bt406.1 != 0) t397 t398 t399 bt408.1 bt408.2.1 bt408.2.2.1 bt415.1 bt415.2.1 bt415.2.2.1) else (samphirelaw12_IndexTells.j1 kj4 a1 a2 bt408.2.2.2 bt415.2.2.2 false t397 t398 t399 bt408.1 bt408.2.1 bt408.2.2.1 bt415.1 bt415.2.1 bt415.2.2.1)) else (samphirelaw12_IndexTells.j1 kj4 a1 a2 bt408.2.2.2 bt415.2.2.2 true t397 t398 t399 bt408.1 bt408.2.1 bt408.2.2.1 bt415.1 bt415.2.1 bt415.2.2.1)) else (none)) else (none)) else (if t437 < 0 then (samphirelaw12_IndexTells.j1 kj4 a1 a2 bt408.2.2.2 bt415.2.2.2 (bt406.1 != 0) t397 t398 t399 bt408.1 bt408.2.1 bt408.2.2.1 bt415.1 bt415.2.1 bt415.2.2.1) else (samphirelaw12_IndexTells.j1 kj4 a1 a2 bt408.2.2.2 bt415.2.2.2 false t397 t398 t399 bt408.1 bt408.2.1 bt408.2.2.1 bt415.1 bt415.2.1 bt415.2.2.1)))) else (samphirelaw12_IndexTells.j1 kj4 a1 a2 bt408.2.2.2 bt415.2.2.2 true t397 t398 t399 bt408.1 bt408.2.1 bt408.2.2.1 bt415.1 bt415.2.1 bt415.2.2.1))))) else ((index_Many.f kj4 a0_0 a0_1 l0_2).bind fun t423 => (if t423 = 0 then (if bt406.1 = 0 then (if bt406.2 = true then (some false) else (if bt408.2.2.2 = 1 then (if bt415.2.2.2 = 1 then ((samphirelaw12_Ref.f kj4 bt408.1 bt408.2.1 bt408.2.2.1).bind fun bt424 => ((samphireref12_Same.f kj4 bt424.1 bt424.2.1 bt424.2.2 t397 t398 t399).bind fun t429 => (if t429 = true then ((samphirelaw12_Ref.f kj4 bt415.1 bt415.2.1 bt415.2.2.1).bind fun bt430 => ((samphireref12_Same.f kj4 bt430.1 bt430.2.1 bt430.2.2 t397 t398 t399).bind fun t435 => (if t435 = true then ((samphirelaw12_awake.f kj4).bind fun t436 => (some t436)) else (some false)))) else (some false)))) else (some false)) else (some false))) else (some false)) else (some false))))))))) = some r := H
    have A24 := Aside0.mk A240
    clear A240
    replace H := Option.bind_eq_some_iff.mp H
    obtain ⟨⟨t406, t407⟩, A250, H⟩ := H
    replace H : ((index_Put.f kj4 a0_0 a0_1 l0_2 a1 a2).bind fun bt408 => ((index_Delete.f kj4 a0_0 a0_1 l0_2 a1).bind fun bt415 => ((index_Right.f kj4 a0_0 a0_1 l0_2).bind fun t422 => (if (t422 != t405) = true then (some false) else (if t405 = true then ((samphireref12_Find.f kj4 t397 t398 t399 a1).bind fun t437 => ((index_Many.f kj4 a0_0 a0_1 l0_2).bind fun t438 => ((samphireref12_Many.f kj4 t397 t398 t399).bind fun t439 => (if t438 = t439 then (if (t407 != (decide (t437 ≥ 0))) = true then (samphirelaw12_IndexTells.j1 kj4 a1 a2 bt408.2.2.2 bt415.2.2.2 true t397 t398 t399 bt408.1 bt408.2.1 bt408.2.2.1 bt415.1 bt415.2.1 bt415.2.2.1) else (if t437 ≥ 0 then (if 0 ≤ t437 then (if t437 < (t399.length : Int) then (if t406 = ((rd_T46 t399 t437).f2) then (if t437 < 0 then (samphirelaw12_IndexTells.j1 kj4 a1 a2 bt408.2.2.2 bt415.2.2.2 (t406 != 0) t397 t398 t399 bt408.1 bt408.2.1 bt408.2.2.1 bt415.1 bt415.2.1 bt415.2.2.1) else (samphirelaw12_IndexTells.j1 kj4 a1 a2 bt408.2.2.2 bt415.2.2.2 false t397 t398 t399 bt408.1 bt408.2.1 bt408.2.2.1 bt415.1 bt415.2.1 bt415.2.2.1)) else (samphirelaw12_IndexTells.j1 kj4 a1 a2 bt408.2.2.2 bt415.2.2.2 true t397 t398 t399 bt408.1 bt408.2.1 bt408.2.2.1 bt415.1 bt415.2.1 bt415.2.2.1)) else (none)) else (none)) else (if t437 < 0 then (samphirelaw12_IndexTells.j1 kj4 a1 a2 bt408.2.2.2 bt415.2.2.2 (t406 != 0) t397 t398 t399 bt408.1 bt408.2.1 bt408.2.2.1 bt415.1 bt415.2.1 bt415.2.2.1) else (samphirelaw12_IndexTells.j1 kj4 a1 a2 bt408.2.2.2 bt415.2.2.2 false t397 t398 t399 bt408.1 bt408.2.1 bt408.2.2.1 bt415.1 bt415.2.1 bt415.2.2.1)))) else (samphirelaw12_IndexTells.j1 kj4 a1 a2 bt408.2.2.2 bt415.2.2.2 true t397 t398 t399 bt408.1 bt408.2.1 bt408.2.2.1 bt415.1 bt415.2.1 bt415.2.2.1))))) else ((index_Many.f kj4 a0_0 a0_1 l0_2).bind fun t423 => (if t423 = 0 then (if t406 = 0 then (if t407 = true then (some false) else (if bt408.2.2.2 = 1 then (if bt415.2.2.2 = 1 then ((samphirelaw12_Ref.f kj4 bt408.1 bt408.2.1 bt408.2.2.1).bind fun bt424 => ((samphireref12_Same.f kj4 bt424.1 bt424.2.1 bt424.2.2 t397 t398 t399).bind fun t429 => (if t429 = true then ((samphirelaw12_Ref.f kj4 bt415.1 bt415.2.1 bt415.2.2.1).bind fun bt430 => ((samphireref12_Same.f kj4 bt430.1 bt430.2.1 bt430.2.2 t397 t398 t399).bind fun t435 => (if t435 = true then ((samphirelaw12_awake.f kj4).bind fun t436 => (some t436)) else (some false)))) else (some false)))) else (some false)) else (some false))) else (some false)) else (some false)))))))) = some r := H
    have A25 := Aside0.mk A250
    clear A250
    replace H := Option.bind_eq_some_iff.mp H
    obtain ⟨⟨t408, t409, t410, t413⟩, A260, H⟩ := H
    replace H : ((index_Delete.f kj4 a0_0 a0_1 l0_2 a1).bind fun bt415 => ((index_Right.f kj4 a0_0 a0_1 l0_2).bind fun t422 => (if (t422 != t405) = true then (some false) else (if t405 = true then ((samphireref12_Find.f kj4 t397 t398 t399 a1).bind fun t437 => ((index_Many.f kj4 a0_0 a0_1 l0_2).bind fun t438 => ((samphireref12_Many.f kj4 t397 t398 t399).bind fun t439 => (if t438 = t439 then (if (t407 != (decide (t437 ≥ 0))) = true then (samphirelaw12_IndexTells.j1 kj4 a1 a2 t413 bt415.2.2.2 true t397 t398 t399 t408 t409 t410 bt415.1 bt415.2.1 bt415.2.2.1) else (if t437 ≥ 0 then (if 0 ≤ t437 then (if t437 < (t399.length : Int) then (if t406 = ((rd_T46 t399 t437).f2) then (if t437 < 0 then (samphirelaw12_IndexTells.j1 kj4 a1 a2 t413 bt415.2.2.2 (t406 != 0) t397 t398 t399 t408 t409 t410 bt415.1 bt415.2.1 bt415.2.2.1) else (samphirelaw12_IndexTells.j1 kj4 a1 a2 t413 bt415.2.2.2 false t397 t398 t399 t408 t409 t410 bt415.1 bt415.2.1 bt415.2.2.1)) else (samphirelaw12_IndexTells.j1 kj4 a1 a2 t413 bt415.2.2.2 true t397 t398 t399 t408 t409 t410 bt415.1 bt415.2.1 bt415.2.2.1)) else (none)) else (none)) else (if t437 < 0 then (samphirelaw12_IndexTells.j1 kj4 a1 a2 t413 bt415.2.2.2 (t406 != 0) t397 t398 t399 t408 t409 t410 bt415.1 bt415.2.1 bt415.2.2.1) else (samphirelaw12_IndexTells.j1 kj4 a1 a2 t413 bt415.2.2.2 false t397 t398 t399 t408 t409 t410 bt415.1 bt415.2.1 bt415.2.2.1)))) else (samphirelaw12_IndexTells.j1 kj4 a1 a2 t413 bt415.2.2.2 true t397 t398 t399 t408 t409 t410 bt415.1 bt415.2.1 bt415.2.2.1))))) else ((index_Many.f kj4 a0_0 a0_1 l0_2).bind fun t423 => (if t423 = 0 then (if t406 = 0 then (if t407 = true then (some false) else (if t413 = 1 then (if bt415.2.2.2 = 1 then ((samphirelaw12_Ref.f kj4 t408 t409 t410).bind fun bt424 => ((samphireref12_Same.f kj4 bt424.1 bt424.2.1 bt424.2.2 t397 t398 t399).bind fun t429 => (if t429 = true then ((samphirelaw12_Ref.f kj4 bt415.1 bt415.2.1 bt415.2.2.1).bind fun bt430 => ((samphireref12_Same.f kj4 bt430.1 bt430.2.1 bt430.2.2 t397 t398 t399).bind fun t435 => (if t435 = true then ((samphirelaw12_awake.f kj4).bind fun t436 => (some t436)) else (some false)))) else (some false)))) else (some false)) else (some false))) else (some false)) else (some false))))))) = some r := H
    have A26 := Aside0.mk A260
    clear A260
    replace H := Option.bind_eq_some_iff.mp H
    obtain ⟨⟨t415, t416, t417, t420⟩, A270, H⟩ := H
    replace H : ((index_Right.f kj4 a0_0 a0_1 l0_2).bind fun t422 => (if (t422 != t405) = true then (some false) else (if t405 = true then ((samphireref12_Find.f kj4 t397 t398 t399 a1).bind fun t437 => ((index_Many.f kj4 a0_0 a0_1 l0_2).bind fun t438 => ((samphireref12_Many.f kj4 t397 t398 t399).bind fun t439 => (if t438 = t439 then (if (t407 != (decide (t437 ≥ 0))) = true then (samphirelaw12_IndexTells.j1 kj4 a1 a2 t413 t420 true t397 t398 t399 t408 t409 t410 t415 t416 t417) else (if t437 ≥ 0 then (if 0 ≤ t437 then (if t437 < (t399.length : Int) then (if t406 = ((rd_T46 t399 t437).f2) then (if t437 < 0 then (samphirelaw12_IndexTells.j1 kj4 a1 a2 t413 t420 (t406 != 0) t397 t398 t399 t408 t409 t410 t415 t416 t417) else (samphirelaw12_IndexTells.j1 kj4 a1 a2 t413 t420 false t397 t398 t399 t408 t409 t410 t415 t416 t417)) else (samphirelaw12_IndexTells.j1 kj4 a1 a2 t413 t420 true t397 t398 t399 t408 t409 t410 t415 t416 t417)) else (none)) else (none)) else (if t437 < 0 then (samphirelaw12_IndexTells.j1 kj4 a1 a2 t413 t420 (t406 != 0) t397 t398 t399 t408 t409 t410 t415 t416 t417) else (samphirelaw12_IndexTells.j1 kj4 a1 a2 t413 t420 false t397 t398 t399 t408 t409 t410 t415 t416 t417)))) else (samphirelaw12_IndexTells.j1 kj4 a1 a2 t413 t420 true t397 t398 t399 t408 t409 t410 t415 t416 t417))))) else ((index_Many.f kj4 a0_0 a0_1 l0_2).bind fun t423 => (if t423 = 0 then (if t406 = 0 then (if t407 = true then (some false) else (if t413 = 1 then (if t420 = 1 then ((samphirelaw12_Ref.f kj4 t408 t409 t410).bind fun bt424 => ((samphireref12_Same.f kj4 bt424.1 bt424.2.1 bt424.2.2 t397 t398 t399).bind fun t429 => (if t429 = true then ((samphirelaw12_Ref.f kj4 t415 t416 t417).bind fun bt430 => ((samphireref12_Same.f kj4 bt430.1 bt430.2.1 bt430.2.2 t397 t398 t399).bind fun t435 => (if t435 = true then ((samphirelaw12_awake.f kj4).bind fun t436 => (some t436)) else (some false)))) else (some false)))) else (some false)) else (some false))) else (some false)) else (some false)))))) = some r := H
    have A27 := Aside0.mk A270
    clear A270
    replace H := Option.bind_eq_some_iff.mp H
    obtain ⟨t422, A280, H⟩ := H
    replace H : (if (t422 != t405) = true then (some false) else (if t405 = true then ((samphireref12_Find.f kj4 t397 t398 t399 a1).bind fun t437 => ((index_Many.f kj4 a0_0 a0_1 l0_2).bind fun t438 => ((samphireref12_Many.f kj4 t397 t398 t399).bind fun t439 => (if t438 = t439 then (if (t407 != (decide (t437 ≥ 0))) = true then (samphirelaw12_IndexTells.j1 kj4 a1 a2 t413 t420 true t397 t398 t399 t408 t409 t410 t415 t416 t417) else (if t437 ≥ 0 then (if 0 ≤ t437 then (if t437 < (t399.length : Int) then (if t406 = ((rd_T46 t399 t437).f2) then (if t437 < 0 then (samphirelaw12_IndexTells.j1 kj4 a1 a2 t413 t420 (t406 != 0) t397 t398 t399 t408 t409 t410 t415 t416 t417) else (samphirelaw12_IndexTells.j1 kj4 a1 a2 t413 t420 false t397 t398 t399 t408 t409 t410 t415 t416 t417)) else (samphirelaw12_IndexTells.j1 kj4 a1 a2 t413 t420 true t397 t398 t399 t408 t409 t410 t415 t416 t417)) else (none)) else (none)) else (if t437 < 0 then (samphirelaw12_IndexTells.j1 kj4 a1 a2 t413 t420 (t406 != 0) t397 t398 t399 t408 t409 t410 t415 t416 t417) else (samphirelaw12_IndexTells.j1 kj4 a1 a2 t413 t420 false t397 t398 t399 t408 t409 t410 t415 t416 t417)))) else (samphirelaw12_IndexTells.j1 kj4 a1 a2 t413 t420 true t397 t398 t399 t408 t409 t410 t415 t416 t417))))) else ((index_Many.f kj4 a0_0 a0_1 l0_2).bind fun t423 => (if t423 = 0 then (if t406 = 0 then (if t407 = true then (some false) else (if t413 = 1 then (if t420 = 1 then ((samphirelaw12_Ref.f kj4 t408 t409 t410).bind fun bt424 => ((samphireref12_Same.f kj4 bt424.1 bt424.2.1 bt424.2.2 t397 t398 t399).bind fun t429 => (if t429 = true then ((samphirelaw12_Ref.f kj4 t415 t416 t417).bind fun bt430 => ((samphireref12_Same.f kj4 bt430.1 bt430.2.1 bt430.2.2 t397 t398 t399).bind fun t435 => (if t435 = true then ((samphirelaw12_awake.f kj4).bind fun t436 => (some t436)) else (some false)))) else (some false)))) else (some false)) else (some false))) else (some false)) else (some false))))) = some r := H
    have A28 := Aside0.mk A280
    clear A280
    by_cases c29 : (t422 != t405) = true
    ·rw [if_pos c29] at H
     exact Bool.noConfusion ((Option.some.inj H).trans hrT.out)
    ·rw [if_neg c29] at H
     have c29b0 : (t422 != t405) = false := by simpa using c29
     (try (have c29b1 : decide (t422 = t405) = true := by simpa using c29))
     (try (have c29b2 : (t422 == t405) = true := by simpa using c29))
     clear c29
     by_cases c53 : t405 = true
     ·subst c53
      have H1 : ((samphireref12_Find.f kj4 t397 t398 t399 a1).bind fun t437 => ((index_Many.f kj4 a0_0 a0_1 l0_2).bind fun t438 => ((samphireref12_Many.f kj4 t397 t398 t399).bind fun t439 => (if t438 = t439 then (if (t407 != (decide (t437 ≥ 0))) = true then (samphirelaw12_IndexTells.j1 kj4 a1 a2 t413 t420 true t397 t398 t399 t408 t409 t410 t415 t416 t417) else (if t437 ≥ 0 then (if 0 ≤ t437 then (if t437 < (t399.length : Int) then (if t406 = ((rd_T46 t399 t437).f2) then (if t437 < 0 then (samphirelaw12_IndexTells.j1 kj4 a1 a2 t413 t420 (t406 != 0) t397 t398 t399 t408 t409 t410 t415 t416 t417) else (samphirelaw12_IndexTells.j1 kj4 a1 a2 t413 t420 false t397 t398 t399 t408 t409 t410 t415 t416 t417)) else (samphirelaw12_IndexTells.j1 kj4 a1 a2 t413 t420 true t397 t398 t399 t408 t409 t410 t415 t416 t417)) else (none)) else (none)) else (if t437 < 0 then (samphirelaw12_IndexTells.j1 kj4 a1 a2 t413 t420 (t406 != 0) t397 t398 t399 t408 t409 t410 t415 t416 t417) else (samphirelaw12_IndexTells.j1 kj4 a1 a2 t413 t420 false t397 t398 t399 t408 t409 t410 t415 t416 t417)))) else (samphirelaw12_IndexTells.j1 kj4 a1 a2 t413 t420 true t397 t398 t399 t408 t409 t410 t415 t416 t417))))) = some r := by rw [if_pos rfl] at H; exact H
      clear H
      have H := H1
      clear H1
      replace H := Option.bind_eq_some_iff.mp H
      obtain ⟨t437, A540, H⟩ := H
      replace H : ((index_Many.f kj4 a0_0 a0_1 l0_2).bind fun t438 => ((samphireref12_Many.f kj4 t397 t398 t399).bind fun t439 => (if t438 = t439 then (if (t407 != (decide (t437 ≥ 0))) = true then (samphirelaw12_IndexTells.j1 kj4 a1 a2 t413 t420 true t397 t398 t399 t408 t409 t410 t415 t416 t417) else (if t437 ≥ 0 then (if 0 ≤ t437 then (if t437 < (t399.length : Int) then (if t406 = ((rd_T46 t399 t437).f2) then (if t437 < 0 then (samphirelaw12_IndexTells.j1 kj4 a1 a2 t413 t420 (t406 != 0) t397 t398 t399 t408 t409 t410 t415 t416 t417) else (samphirelaw12_IndexTells.j1 kj4 a1 a2 t413 t420 false t397 t398 t399 t408 t409 t410 t415 t416 t417)) else (samphirelaw12_IndexTells.j1 kj4 a1 a2 t413 t420 true t397 t398 t399 t408 t409 t410 t415 t416 t417)) else (none)) else (none)) else (if t437 < 0 then (samphirelaw12_IndexTells.j1 kj4 a1 a2 t413 t420 (t406 != 0) t397 t398 t399 t408 t409 t410 t415 t416 t417) else (samphirelaw12_IndexTells.j1 kj4 a1 a2 t413 t420 false t397 t398 t399 t408 t409 t410 t415 t416 t417)))) else (samphirelaw12_IndexTells.j1 kj4 a1 a2 t413 t420 true t397 t398 t399 t408 t409 t410 t415 t416 t417)))) = some r := H
      have A54 := Aside0.mk A540
      clear A540
      have HC55 := Aside0.mk H
      clear H
      have hnb56 := NB402_396.out
      have hnc56 := NB396_402.out
      have hcz57_0 := ce BK402 0
      have hcz57_1 := ce BK402 1
      have hcz57_2 := ce BK402 2
      have hfz57_0 := fz BK402 0
      have hfz57_1 := fz BK402 1
      have hfz57_2 := fz BK402 2
      go_upto_region 13 with (first | ((with_reducible refine gate_callee (f := 11) rfl ?_); refine gl (some 32) Try.func11 #[.agg #[.int .u64 t397, .int .u64 t398, .slice Ao12 t399.length co12]] ?_; (with_reducible refine (samphireref12_Right.calls kj4 t397 t398 _ _ t399 true _ ?side1 ?side2 A24.out).mono ?_); (case side1 => repeat (first | exact (Kd.R_reads' HO_403002.out).2.2 | (with_reducible refine Kd.C_alloc ?_ _) | (with_reducible refine Kd.C_drewN ?_ _) | (with_reducible refine Kd.C_drew ?_))); (case side2 => exact (Kd.R_reads' HO_403002.out).2.1); rintro e w58 ⟨rfl, hb⟩; refine ⟨_, rfl, ?_⟩; replace HO_403002 := Aside0.mk (Kd.R_below (pr HO_403002.out) hb); replace BK396 := Aside0.mk (blk_below (pk BK396.out) hb); replace BK402 := Aside0.mk (blk_below (pk BK402.out) hb); replace HB := Aside0.mk (below_step (pb HB) hb); (try clear hb); (try clear hb2); (try clear hk); (try clear hi); have hcz59_0 := ce BK396 0; have hcz59_1 := ce BK396 1; have hcz59_2 := ce BK396 2; have hfz59_0 := fz BK396 0; have hfz59_1 := fz BK396 1; have hfz59_2 := fz BK396 2) | ((with_reducible refine gate_callee (f := 12) rfl ?_); refine gl (some 36) Try.func12 #[.agg #[.int .u64 a0_0, .int .u64 a0_1, .slice A0_2 l0_2.length c0_2], .string a1] ?_; (with_reducible refine (index_Get.calls kj4 a0_0 a0_1 _ _ l0_2 a1 t406 t407 _ ?side1 ?side2 A25.out).mono ?_); (case side1 => repeat (first | exact (Kd.C_below HR0_2.out HB.out) | (with_reducible refine Kd.C_alloc ?_ _) | (with_reducible refine Kd.C_drewN ?_ _) | (with_reducible refine Kd.C_drew ?_))); (case side2 => exact HC0_2.out); rintro e w60 ⟨rfl, hb⟩; refine ⟨_, rfl, ?_⟩; replace HO_403002 := Aside0.mk (Kd.R_below (pr HO_403002.out) hb); replace BK396 := Aside0.mk (blk_below (pk BK396.out) hb); replace BK402 := Aside0.mk (blk_below (pk BK402.out) hb); replace HB := Aside0.mk (below_step (pb HB) hb); (try clear hb); (try clear hb2); (try clear hk); (try clear hi); have hcz61_0 := ce BK396 0; have hcz61_1 := ce BK396 1; have hcz61_2 := ce BK396 2; have hfz61_0 := fz BK396 0; have hfz61_1 := fz BK396 1; have hfz61_2 := fz BK396 2) | ((with_reducible refine gate_callee (f := 13) rfl ?_); refine gl (some 43) Try.func13 #[.agg #[.int .u64 a0_0, .int .u64 a0_1, .slice A0_2 l0_2.length c0_2], .string a1, .int .i64 a2] ?_; (with_reducible refine (index_Put.calls kj4 a0_0 a0_1 (fun k_ => k_ < w.heap.size) _ _ l0_2 a1 a2 t408 t409 t410 t413 _ ?side1 A26.out).mono ?_); (case side1 => exact Kd.V_mk HC0_2.out (Kd.F_below (Kd.C_F k60_heap HR0_2.out) (pb HB))); rintro e w62 ⟨v411, rfl, ho0, hb⟩; refine ⟨_, rfl, ?_⟩; have n0_ := Aside0.mk (Kd.R_below (pr HO_403002.out) hb); have n1_ := Aside0.mk (Kd.V_lower (Kd.V_mono (ok' := fun k_ => some k_ ≠ (.slice Ao12 t399.length co12 : Value).ownBlock ∧ k_ ≠ gb396 ∧ k_ ≠ gb402) ho0 (fun k_ hk_ => ⟨Or.elim hk_ (fun hs_ => fun e_ => Nat.not_le.2 hs_ (Kd.R_base HO_403002.out k_ e_.symm)) (fun hn_ => (Kd.fresh' (Kd.R_lt (pr HO_403002.out)) k_ hn_)), Or.elim hk_ (fun hs_ => fun e_ => Nat.not_le.2 hs_ (by rw [e_]; exact GW396.out)) (fun hn_ => (Kd.freshB (g := gb396) (o := .cells #[.int .u64 a0_0, .int .u64 a0_1, .slice A0_2 l0_2.length c0_2] 27 (0, 0)) (pk BK396.out) k_ hn_)), Or.elim hk_ (fun hs_ => fun e_ => Nat.not_le.2 hs_ (by rw [e_]; exact GW402.out)) (fun hn_ => (Kd.freshB (g := gb402) (o := .cells #[.int .u64 t397, .int .u64 t398, .slice Ao12 t399.length co12] 30 (0, 0)) (pk BK402.out) k_ hn_))⟩)) (below_size (pb HB))); have n2_ := Aside0.mk (blk_below (pk BK396.out) hb); have n3_ := Aside0.mk (blk_below (pk BK402.out) hb); have n4_ := Aside0.mk (below_step (pb HB) hb); clear HO_403002; clear BK396; clear BK402; clear HB; have HO_403002 := n0_; have HO412 := n1_; have BK396 := n2_; have BK402 := n3_; have HB := n4_; clear n0_ n1_ n2_ n3_ n4_; (try clear hb); (try clear hb2); (try clear hk); (try clear hi); (try clear ho0)) | ((with_reducible refine gate_dst (N := 11) rfl ?_); (try (refine gate_guard (by rfl) ?_; dsimp only)); refine box_event ?hg (N := 11) ?hd (cs := #[.int .u64 0, .int .u64 0, .slice none 0 0]) (t := 27) ?hr ?_; (case hd => rfl); (case hg => rfl); (case hr => first | (go_simp; done) | (go_simp; rfl)); intro gb414 hg w63 hbox hb; have n0_ := Aside0.mk (Kd.R_below (pr HO_403002.out) hb); have n1_ := Aside0.mk (Kd.V_below (Kd.V_elderB (pv HO412.out) gb414 (Nat.le_of_eq hg.symm)) hb); have n2_ := Aside0.mk (blk_below (pk BK396.out) hb); have n3_ := Aside0.mk (blk_below (pk BK402.out) hb); have n4_ := Aside0.mk (below_step (pb HB) hb); have n5_ := Aside0.mk (hbox); have n6_ := Aside0.mk ((pg hg HB : w.heap.size ≤ gb414)); have n7_ := Aside0.mk ((pg hg HB : w.heap.size ≤ gb414)); have n8_ := Aside0.mk ((pl hg (pk BK396.out) : gb396 ≠ gb414)); have n9_ := Aside0.mk ((pl' hg (pk BK396.out) : gb414 ≠ gb396)); have n10_ := Aside0.mk ((pl hg (pk BK402.out) : gb402 ≠ gb414)); have n11_ := Aside0.mk ((pl' hg (pk BK402.out) : gb414 ≠ gb402)); clear HO_403002; clear HO412; clear BK396; clear BK402; clear HB; have HO_403002 := n0_; have HO412 := n1_; have BK396 := n2_; have BK402 := n3_; have HB := n4_; have BK414 := n5_; have GW414 := n6_; have GE414 := n7_; have NB396_414 := n8_; have NB414_396 := n9_; have NB402_414 := n10_; have NB414_402 := n11_; clear n0_ n1_ n2_ n3_ n4_ n5_ n6_ n7_ n8_ n9_ n10_ n11_; clear hb hbox hg; have hnb64 := NB414_396.out; have hnc64 := NB396_414.out; have hnb65 := NB414_402.out; have hnc65 := NB402_414.out; have hcz66_0 := ce BK414 0; have hcz66_1 := ce BK414 1; have hcz66_2 := ce BK414 2; have hfz66_0 := fz BK414 0; have hfz66_1 := fz BK414 1; have hfz66_2 := fz BK414 2; obtain ⟨Ao67, co67, eo67⟩ := Kd.V_slice HO412.out; subst eo67) | ((with_reducible refine gate_store (t := 27) (p := 11) rfl ?_); refine store_event (t := 27) (p := 11) (v := ?vo_w68) (w1 := (((w63.setCell ⟨gb414, 0, none⟩ (.int .u64 t408)).setCell ⟨gb414, 1, none⟩ (.int .u64 t409)).setCell ⟨gb414, 2, none⟩ (.slice Ao67 t410.length co67))) ?hg ?ho ?hn ?hr ?_; (case ho => rfl); (case hg => rfl); (case hn => rfl); (case hr => first | (go_simp; done) | (go_simp; rfl)); intro w68 hw; have n0_ : Aside0 (Kd.R k46 46 w68 w.heap.size (fun _ => True) (.slice Ao12 t399.length co12) t399) := ⟨(by rw [hw]; exact (pr (Kd.R_mono (Kd.R_far (p := ⟨gb414, 2, none⟩) (Kd.R_far (p := ⟨gb414, 1, none⟩) (Kd.R_far (p := ⟨gb414, 0, none⟩) (Kd.R_types HO_403002.out BK414.out (by decide)) (fun _ hk => hk.2) (.int .u64 t408)) (fun _ hk => hk.2) (.int .u64 t409)) (fun _ hk => hk.2) (.slice Ao67 t410.length co67)) (fun _ hk => trivial))))⟩; have n1_ : Aside0 (Kd.V k60 60 w68 w.heap.size (fun k_ => some k_ ≠ (.slice Ao12 t399.length co12 : Value).ownBlock ∧ k_ ≠ gb396 ∧ k_ ≠ gb402 ∧ k_ ≠ gb414) (.slice Ao67 t410.length co67) t410) := ⟨(by rw [hw]; exact (pv (Kd.V_mono (Kd.V_far (p := ⟨gb414, 2, none⟩) (Kd.V_far (p := ⟨gb414, 1, none⟩) (Kd.V_far (p := ⟨gb414, 0, none⟩) (Kd.V_mono HO412.out (fun k_ hk => (⟨hk, hk.2⟩ : _ ∧ k_ ≠ gb414))) (fun _ hk => hk.2) (.int .u64 t408)) (fun _ hk => hk.2) (.int .u64 t409)) (fun _ hk => hk.2) (.slice Ao67 t410.length co67)) (fun _ hk => ⟨hk.1.1.1, ⟨hk.1.1.2.1, ⟨hk.1.1.2.2, hk.1.2⟩⟩⟩))))⟩; have n2_ : Aside0 (w68.heap[gb396]? = some (.cells #[.int .u64 a0_0, .int .u64 a0_1, .slice A0_2 l0_2.length c0_2] 27 (0, 0))) := ⟨(by rw [hw]; exact (by refine pk ?_; refine blk_far ?_ NB396_414.out _; refine pk ?_; refine blk_far ?_ NB396_414.out _; refine pk ?_; refine blk_far ?_ NB396_414.out _; refine pk ?_; exact BK396.out))⟩; have n3_ : Aside0 (w68.heap[gb402]? = some (.cells #[.int .u64 t397, .int .u64 t398, .slice Ao12 t399.length co12] 30 (0, 0))) := ⟨(by rw [hw]; exact (by refine pk ?_; refine blk_far ?_ NB402_414.out _; refine pk ?_; refine blk_far ?_ NB402_414.out _; refine pk ?_; refine blk_far ?_ NB402_414.out _; refine pk ?_; exact BK402.out))⟩; have n4_ : Aside0 (w68.heap[gb414]? = some (.cells #[.int .u64 t408, .int .u64 t409, .slice Ao67 t410.length co67] 27 (0, 0))) := ⟨(by rw [hw]; exact (by refine pk ?_; refine blk_put (cs := #[.int .u64 t408, .int .u64 t409, .slice none 0 0]) ?_ 2 _ rfl; refine pk ?_; refine blk_put (cs := #[.int .u64 t408, .int .u64 0, .slice none 0 0]) ?_ 1 _ rfl; refine pk ?_; refine blk_put (cs := #[.int .u64 0, .int .u64 0, .slice none 0 0]) ?_ 0 _ rfl; refine pk ?_; exact BK414.out))⟩; have n5_ : Aside0 (Below w.heap.size w w68) := ⟨(by rw [hw]; exact (pb HB))⟩; clear hw; clear HO_403002; clear HO412; clear BK396; clear BK402; clear BK414; clear HB; have HO_403002 := n0_; have HO412 := n1_; have BK396 := n2_; have BK402 := n3_; have BK414 := n4_; have HB := n5_; clear n0_ n1_ n2_ n3_ n4_ n5_; have hcz69_0 := ce BK396 0; have hcz69_1 := ce BK396 1; have hcz69_2 := ce BK396 2; have hfz69_0 := fz BK396 0; have hfz69_1 := fz BK396 1; have hfz69_2 := fz BK396 2) | ((with_reducible refine gate_callee (f := 14) rfl ?_); refine gl (some 49) Try.func14 #[.agg #[.int .u64 a0_0, .int .u64 a0_1, .slice A0_2 l0_2.length c0_2], .string a1] ?_; (with_reducible refine (index_Delete.calls kj4 a0_0 a0_1 (fun k_ => k_ < w.heap.size) _ _ l0_2 a1 t415 t416 t417 t420 _ ?side1 A27.out).mono ?_); (case side1 => exact Kd.V_mk HC0_2.out (Kd.F_below (Kd.C_F k60_heap HR0_2.out) (pb HB))); rintro e w70 ⟨v418, rfl, ho0, hb⟩; refine ⟨_, rfl, ?_⟩; have n0_ := Aside0.mk (Kd.R_below (pr HO_403002.out) hb); have n1_ := Aside0.mk (Kd.V_below (pv HO412.out) hb); have n2_ := Aside0.mk (Kd.V_lower (Kd.V_mono (ok' := fun k_ => some k_ ≠ (.slice Ao12 t399.length co12 : Value).ownBlock ∧ k_ ≠ gb396 ∧ k_ ≠ gb402 ∧ k_ ≠ gb414) ho0 (fun k_ hk_ => ⟨Or.elim hk_ (fun hs_ => fun e_ => Nat.not_le.2 hs_ (Kd.R_base HO_403002.out k_ e_.symm)) (fun hn_ => (Kd.fresh' (Kd.R_lt (pr HO_403002.out)) k_ hn_)), Or.elim hk_ (fun hs_ => fun e_ => Nat.not_le.2 hs_ (by rw [e_]; exact GW396.out)) (fun hn_ => (Kd.freshB (g := gb396) (o := .cells #[.int .u64 a0_0, .int .u64 a0_1, .slice A0_2 l0_2.length c0_2] 27 (0, 0)) (pk BK396.out) k_ hn_)), Or.elim hk_ (fun hs_ => fun e_ => Nat.not_le.2 hs_ (by rw [e_]; exact GW402.out)) (fun hn_ => (Kd.freshB (g := gb402) (o := .cells #[.int .u64 t397, .int .u64 t398, .slice Ao12 t399.length co12] 30 (0, 0)) (pk BK402.out) k_ hn_)), Or.elim hk_ (fun hs_ => fun e_ => Nat.not_le.2 hs_ (by rw [e_]; exact GW414.out)) (fun hn_ => (Kd.freshB (g := gb414) (o := .cells #[.int .u64 t408, .int .u64 t409, .slice Ao67 t410.length co67] 27 (0, 0)) (pk BK414.out) k_ hn_))⟩)) (below_size (pb HB))); have n3_ := Aside0.mk (blk_below (pk BK396.out) hb); have n4_ := Aside0.mk (blk_below (pk BK402.out) hb); have n5_ := Aside0.mk (blk_below (pk BK414.out) hb); have n6_ := Aside0.mk (below_step (pb HB) hb); clear HO_403002; clear HO412; clear BK396; clear BK402; clear BK414; clear HB; have HO_403002 := n0_; have HO412 := n1_; have HO419 := n2_; have BK396 := n3_; have BK402 := n4_; have BK414 := n5_; have HB := n6_; clear n0_ n1_ n2_ n3_ n4_ n5_ n6_; (try clear hb); (try clear hb2); (try clear hk); (try clear hi); (try clear ho0)) | ((with_reducible refine gate_dst (N := 13) rfl ?_); (try (refine gate_guard (by rfl) ?_; dsimp only)); refine box_event ?hg (N := 13) ?hd (cs := #[.int .u64 0, .int .u64 0, .slice none 0 0]) (t := 27) ?hr ?_; (case hd => rfl); (case hg => rfl); (case hr => first | (go_simp; done) | (go_simp; rfl)); intro gb421 hg w71 hbox hb; have n0_ := Aside0.mk (Kd.R_below (pr HO_403002.out) hb); have n1_ := Aside0.mk (Kd.V_below (Kd.V_elderB (pv HO412.out) gb421 (Nat.le_of_eq hg.symm)) hb); have n2_ := Aside0.mk (Kd.V_below (Kd.V_elderB (pv HO419.out) gb421 (Nat.le_of_eq hg.symm)) hb); have n3_ := Aside0.mk (blk_below (pk BK396.out) hb); have n4_ := Aside0.mk (blk_below (pk BK402.out) hb); have n5_ := Aside0.mk (blk_below (pk BK414.out) hb); have n6_ := Aside0.mk (below_step (pb HB) hb); have n7_ := Aside0.mk (hbox); have n8_ := Aside0.mk ((pg hg HB : w.heap.size ≤ gb421)); have n9_ := Aside0.mk ((pg hg HB : w.heap.size ≤ gb421)); have n10_ := Aside0.mk ((pl hg (pk BK396.out) : gb396 ≠ gb421)); have n11_ := Aside0.mk ((pl' hg (pk BK396.out) : gb421 ≠ gb396)); have n12_ := Aside0.mk ((pl hg (pk BK402.out) : gb402 ≠ gb421)); have n13_ := Aside0.mk ((pl' hg (pk BK402.out) : gb421 ≠ gb402)); have n14_ := Aside0.mk ((pl hg (pk BK414.out) : gb414 ≠ gb421)); have n15_ := Aside0.mk ((pl' hg (pk BK414.out) : gb421 ≠ gb414)); clear HO_403002; clear HO412; clear HO419; clear BK396; clear BK402; clear BK414; clear HB; have HO_403002 := n0_; have HO412 := n1_; have HO419 := n2_; have BK396 := n3_; have BK402 := n4_; have BK414 := n5_; have HB := n6_; have BK421 := n7_; have GW421 := n8_; have GE421 := n9_; have NB396_421 := n10_; have NB421_396 := n11_; have NB402_421 := n12_; have NB421_402 := n13_; have NB414_421 := n14_; have NB421_414 := n15_; clear n0_ n1_ n2_ n3_ n4_ n5_ n6_ n7_ n8_ n9_ n10_ n11_ n12_ n13_ n14_ n15_; clear hb hbox hg; have hnb72 := NB421_396.out; have hnc72 := NB396_421.out; have hnb73 := NB421_402.out; have hnc73 := NB402_421.out; have hnb74 := NB421_414.out; have hnc74 := NB414_421.out; have hcz75_0 := ce BK421 0; have hcz75_1 := ce BK421 1; have hcz75_2 := ce BK421 2; have hfz75_0 := fz BK421 0; have hfz75_1 := fz BK421 1; have hfz75_2 := fz BK421 2; obtain ⟨Ao76, co76, eo76⟩ := Kd.V_slice HO419.out; subst eo76; have hcz77_0 := ce BK396 0; have hcz77_1 := ce BK396 1; have hcz77_2 := ce BK396 2; have hfz77_0 := fz BK396 0; have hfz77_1 := fz BK396 1; have hfz77_2 := fz BK396 2) | ((with_reducible refine gate_callee (f := 15) rfl ?_); refine gl (some 53) Try.func15 #[.agg #[.int .u64 a0_0, .int .u64 a0_1, .slice A0_2 l0_2.length c0_2]] ?_; (with_reducible refine (index_Right.calls kj4 a0_0 a0_1 _ _ l0_2 t422 _ ?side1 ?side2 A28.out).mono ?_); (case side1 => exact Kd.C_below HR0_2.out (pb HB)); (case side2 => exact HC0_2.out); rintro e w78 ⟨rfl, hb⟩; refine ⟨_, rfl, ?_⟩; replace HO_403002 := Aside0.mk (Kd.R_below (pr ((Kd.R_mono (Kd.R_far (p := ⟨gb421, 2, none⟩) (Kd.R_far (p := ⟨gb421, 1, none⟩) (Kd.R_far (p := ⟨gb421, 0, none⟩) (Kd.R_types HO_403002.out BK421.out (by decide)) (fun _ hk => hk.2) (.int .u64 t415)) (fun _ hk => hk.2) (.int .u64 t416)) (fun _ hk => hk.2) (.slice Ao76 t417.length co76)) (fun _ h_ => h_.1)))) hb); replace HO412 := Aside0.mk (Kd.V_below (pv ((Kd.V_mono (Kd.V_far (p := ⟨gb421, 2, none⟩) (Kd.V_far (p := ⟨gb421, 1, none⟩) (Kd.V_far (p := ⟨gb421, 0, none⟩) (Kd.V_mono HO412.out (fun k_ hk => (⟨hk, hk.2⟩ : _ ∧ k_ ≠ gb421))) (fun _ hk => hk.2) (.int .u64 t415)) (fun _ hk => hk.2) (.int .u64 t416)) (fun _ hk => hk.2) (.slice Ao76 t417.length co76)) (fun _ h_ => h_.1)))) hb); replace HO419 := Aside0.mk (Kd.V_below (pv ((Kd.V_mono (Kd.V_far (p := ⟨gb421, 2, none⟩) (Kd.V_far (p := ⟨gb421, 1, none⟩) (Kd.V_far (p := ⟨gb421, 0, none⟩) (Kd.V_mono HO419.out (fun k_ hk => (⟨hk, hk.2⟩ : _ ∧ k_ ≠ gb421))) (fun _ hk => hk.2) (.int .u64 t415)) (fun _ hk => hk.2) (.int .u64 t416)) (fun _ hk => hk.2) (.slice Ao76 t417.length co76)) (fun _ h_ => h_.1)))) hb); replace BK396 := Aside0.mk (blk_below (g := gb396) (o := .cells #[.int .u64 a0_0, .int .u64 a0_1, .slice A0_2 l0_2.length c0_2] 27 (0, 0)) (by refine pk ?_; refine blk_far ?_ NB396_421.out _; refine pk ?_; refine blk_far ?_ NB396_421.out _; refine pk ?_; refine blk_far ?_ NB396_421.out _; refine pk ?_; exact BK396.out) hb); replace BK402 := Aside0.mk (blk_below (g := gb402) (o := .cells #[.int .u64 t397, .int .u64 t398, .slice Ao12 t399.length co12] 30 (0, 0)) (by refine pk ?_; refine blk_far ?_ NB402_421.out _; refine pk ?_; refine blk_far ?_ NB402_421.out _; refine pk ?_; refine blk_far ?_ NB402_421.out _; refine pk ?_; exact BK402.out) hb); replace BK414 := Aside0.mk (blk_below (g := gb414) (o := .cells #[.int .u64 t408, .int .u64 t409, .slice Ao67 t410.length co67] 27 (0, 0)) (by refine pk ?_; refine blk_far ?_ NB414_421.out _; refine pk ?_; refine blk_far ?_ NB414_421.out _; refine pk ?_; refine blk_far ?_ NB414_421.out _; refine pk ?_; exact BK414.out) hb); replace BK421 := Aside0.mk (blk_below (g := gb421) (o := .cells #[.int .u64 t415, .int .u64 t416, .slice Ao76 t417.length co76] 27 (0, 0)) (by refine pk ?_; refine blk_put (cs := #[.int .u64 t415, .int .u64 t416, .slice none 0 0]) ?_ 2 _ rfl; refine pk ?_; refine blk_put (cs := #[.int .u64 t415, .int .u64 0, .slice none 0 0]) ?_ 1 _ rfl; refine pk ?_; refine blk_put (cs := #[.int .u64 0, .int .u64 0, .slice none 0 0]) ?_ 0 _ rfl; refine pk ?_; exact BK421.out) hb); replace HB := Aside0.mk (below_step (pb HB) hb); (try clear hb); (try clear hb2); (try clear hk); (try clear hi); have hcz79_0 := ce BK402 0; have hcz79_1 := ce BK402 1; have hcz79_2 := ce BK402 2; have hfz79_0 := fz BK402 0; have hfz79_1 := fz BK402 1; have hfz79_2 := fz BK402 2) | ((with_reducible refine gate_callee (f := 18) rfl ?_); refine gl (some 94) Try.func18 #[.agg #[.int .u64 t397, .int .u64 t398, .slice Ao12 t399.length co12], .string a1] ?_; (with_reducible refine (samphireref12_Find.calls kj4 t397 t398 _ _ t399 a1 t437 _ ?side1 ?side2 A54.out).mono ?_); (case side1 => repeat (first | exact (Kd.R_reads' HO_403002.out).2.2 | (with_reducible refine Kd.C_alloc ?_ _) | (with_reducible refine Kd.C_drewN ?_ _) | (with_reducible refine Kd.C_drew ?_))); (case side2 => exact (Kd.R_reads' HO_403002.out).2.1); rintro e w80 ⟨rfl, hb⟩; refine ⟨_, rfl, ?_⟩; replace HO_403002 := Aside0.mk (Kd.R_below (pr HO_403002.out) hb); replace HO412 := Aside0.mk (Kd.V_below (pv HO412.out) hb); replace HO419 := Aside0.mk (Kd.V_below (pv HO419.out) hb); replace BK396 := Aside0.mk (blk_below (pk BK396.out) hb); replace BK402 := Aside0.mk (blk_below (pk BK402.out) hb); replace BK414 := Aside0.mk (blk_below (pk BK414.out) hb); replace BK421 := Aside0.mk (blk_below (pk BK421.out) hb); replace HB := Aside0.mk (below_step (pb HB) hb); (try clear hb); (try clear hb2); (try clear hk); (try clear hi)))
      (try simp only [Act.put, List.setIfInBounds_toArray, List.set_cons_zero, List.set_cons_succ])
      go_cut [127] (fun v127 wc => ∃ (kq : Nat) (x127_54 : Bool), v127 = .bool x127_54 ∧ Aside0 (samphirelaw12_IndexTells.j1 kq a1 a2 t413 t420 x127_54 t397 t398 t399 t408 t409 t410 t415 t416 t417 = some r) ∧ Aside0 (kq ≤ kj4) ∧ Aside0 (Kd.R k46 46 wc w.heap.size (fun _ => True) (.slice Ao12 t399.length co12) t399) ∧ Aside0 (Kd.V k60 60 wc w.heap.size (fun k_ => some k_ ≠ ((.slice Ao12 t399.length co12) : Value).ownBlock ∧ k_ ≠ gb396 ∧ k_ ≠ gb402 ∧ k_ ≠ gb414 ∧ k_ ≠ gb421) (.slice Ao67 t410.length co67) t410) ∧ Aside0 (Kd.V k60 60 wc w.heap.size (fun k_ => some k_ ≠ ((.slice Ao12 t399.length co12) : Value).ownBlock ∧ k_ ≠ gb396 ∧ k_ ≠ gb402 ∧ k_ ≠ gb414 ∧ k_ ≠ gb421) (.slice Ao76 t417.length co76) t417) ∧ Aside0 (wc.heap[gb396]? = some (.cells #[.int .u64 a0_0, .int .u64 a0_1, (.slice A0_2 l0_2.length c0_2)] 27 (0, 0))) ∧ Aside0 (wc.heap[gb402]? = some (.cells #[.int .u64 t397, .int .u64 t398, (.slice Ao12 t399.length co12)] 30 (0, 0))) ∧ Aside0 (wc.heap[gb414]? = some (.cells #[.int .u64 t408, .int .u64 t409, (.slice Ao67 t410.length co67)] 27 (0, 0))) ∧ Aside0 (wc.heap[gb421]? = some (.cells #[.int .u64 t415, .int .u64 t416, (.slice Ao76 t417.length co76)] 27 (0, 0))) ∧ Aside0 (Below w.heap.size w wc))
      case first =>
       have H := HC55.out
       clear HC55
       replace H := Option.bind_eq_some_iff.mp H
       obtain ⟨t438, A810, H⟩ := H
       replace H : ((samphireref12_Many.f kj4 t397 t398 t399).bind fun t439 => (if t438 = t439 then (if (t407 != (decide (t437 ≥ 0))) = true then (samphirelaw12_IndexTells.j1 kj4 a1 a2 t413 t420 true t397 t398 t399 t408 t409 t410 t415 t416 t417) else (if t437 ≥ 0 then (if 0 ≤ t437 then (if t437 < (t399.length : Int) then (if t406 = ((rd_T46 t399 t437).f2) then (if t437 < 0 then (samphirelaw12_IndexTells.j1 kj4 a1 a2 t413 t420 (t406 != 0) t397 t398 t399 t408 t409 t410 t415 t416 t417) else (samphirelaw12_IndexTells.j1 kj4 a1 a2 t413 t420 false t397 t398 t399 t408 t409 t410 t415 t416 t417)) else (samphirelaw12_IndexTells.j1 kj4 a1 a2 t413 t420 true t397 t398 t399 t408 t409 t410 t415 t416 t417)) else (none)) else (none)) else (if t437 < 0 then (samphirelaw12_IndexTells.j1 kj4 a1 a2 t413 t420 (t406 != 0) t397 t398 t399 t408 t409 t410 t415 t416 t417) else (samphirelaw12_IndexTells.j1 kj4 a1 a2 t413 t420 false t397 t398 t399 t408 t409 t410 t415 t416 t417)))) else (samphirelaw12_IndexTells.j1 kj4 a1 a2 t413 t420 true t397 t398 t399 t408 t409 t410 t415 t416 t417))) = some r := H
       have A81 := Aside0.mk A810
       clear A810
       replace H := Option.bind_eq_some_iff.mp H
       obtain ⟨t439, A820, H⟩ := H
       replace H : (if t438 = t439 then (if (t407 != (decide (t437 ≥ 0))) = true then (samphirelaw12_IndexTells.j1 kj4 a1 a2 t413 t420 true t397 t398 t399 t408 t409 t410 t415 t416 t417) else (if t437 ≥ 0 then (if 0 ≤ t437 then (if t437 < (t399.length : Int) then (if t406 = ((rd_T46 t399 t437).f2) then (if t437 < 0 then (samphirelaw12_IndexTells.j1 kj4 a1 a2 t413 t420 (t406 != 0) t397 t398 t399 t408 t409 t410 t415 t416 t417) else (samphirelaw12_IndexTells.j1 kj4 a1 a2 t413 t420 false t397 t398 t399 t408 t409 t410 t415 t416 t417)) else (samphirelaw12_IndexTells.j1 kj4 a1 a2 t413 t420 true t397 t398 t399 t408 t409 t410 t415 t416 t417)) else (none)) else (none)) else (if t437 < 0 then (samphirelaw12_IndexTells.j1 kj4 a1 a2 t413 t420 (t406 != 0) t397 t398 t399 t408 t409 t410 t415 t416 t417) else (samphirelaw12_IndexTells.j1 kj4 a1 a2 t413 t420 false t397 t398 t399 t408 t409 t410 t415 t416 t417)))) else (samphirelaw12_IndexTells.j1 kj4 a1 a2 t413 t420 true t397 t398 t399 t408 t409 t410 t415 t416 t417)) = some r := H
       have A82 := Aside0.mk A820
       clear A820
       by_cases c83 : t438 = t439
       ·rw [if_pos c83] at H
        have c83b0 : (t438 == t439) = true := beq_iff_eq.mpr c83
        have c83b1 : (t438 != t439) = false := bne_eq_false_iff_eq.mpr c83
        clear c83
        (first | rw [c83b0] | (simp only [i64_w, i32_w]; rw [c83b0]) | skip)
        by_cases c84 : (t407 != (decide (t437 ≥ 0))) = true
        ·rw [if_pos c84] at H
         exact (samphirelaw12_IndexTells.j1_true H hrT).elim
        ·rw [if_neg c84] at H
         have c84b0 : (t407 != (decide (t437 ≥ 0))) = false := by simpa using c84
         (try (have c84b1 : decide (t407 = (decide (t437 ≥ 0))) = true := by simpa using c84))
         (try (have c84b2 : (t407 == (decide (t437 ≥ 0))) = true := by simpa using c84))
         clear c84
         by_cases c88 : t437 ≥ 0
         ·rw [if_pos c88] at H
          have c88b0 : decide (0 ≤ t437) = true := decide_eq_true c88
          have cxc88 : t407 = true := (bne_eq_false_iff_eq.mp c84b0).trans c88b0
          clear c88
          by_cases c89 : 0 ≤ t437
          ·rw [if_pos c89] at H
           have c89b0 : decide (0 ≤ t437) = true := decide_eq_true c89
           clear c89
           by_cases c90 : t437 < (t399.length : Int)
           ·rw [if_pos c90] at H
            have c90b0 : decide (t437 < (t399.length : Int)) = true := decide_eq_true c90
            clear c90
            by_cases c91 : t406 = ((rd_T46 t399 t437).f2)
            ·rw [if_pos c91] at H
             have c91b0 : (t406 == ((rd_T46 t399 t437).f2)) = true := beq_iff_eq.mpr c91
             have c91b1 : (t406 != ((rd_T46 t399 t437).f2)) = false := bne_eq_false_iff_eq.mpr c91
             clear c91
             by_cases c92 : t437 < 0
             ·rw [if_pos c92] at H
              exact absurd (of_decide_eq_true c89b0) (by omega)
             ·rw [if_neg c92] at H
              have c92b0 : decide (t437 < 0) = false := decide_eq_false c92
              clear c92
              have H' := Aside0.mk H
              clear H
              try go_wp2
              replace HO_403002 := Aside0.mk (Kd.R_drew HO_403002.out)
              replace HO412 := Aside0.mk (Kd.V_drew HO412.out)
              replace HO419 := Aside0.mk (Kd.V_drew HO419.out)
              replace BK396 := Aside0.mk (blk_drew BK396.out)
              replace BK402 := Aside0.mk (blk_drew BK402.out)
              replace BK414 := Aside0.mk (blk_drew BK414.out)
              replace BK421 := Aside0.mk (blk_drew BK421.out)
              replace HB := Aside0.mk (below_drew1 HB.out)
              have p440 : 0 ≤ (t437 : Int) := of_decide_eq_true (by first | (with_reducible assumption) | assumption)
              have q440 : t437 < (t399.length : Int) := of_decide_eq_true (by first | (with_reducible assumption) | assumption)
              obtain ⟨ad440, e440, hx440_0, hx440_1, hx440_2⟩ := at_T46 (Kd.R_reads' HO_403002.out).2.2 t437 p440 q440
              cases e440
              replace p440 := eq_true p440
              replace q440 := eq_true q440
              refine start_ (n := 33) (S := fun w' => w'.cell? ⟨gb396, 0, none⟩ = some (.int .u64 a0_0) ∧ w'.cell? ⟨gb396, 1, none⟩ = some (.int .u64 a0_1) ∧ w'.cell? ⟨gb396, 2, none⟩ = some (.slice A0_2 l0_2.length c0_2) ∧ w'.cell? ⟨gb402, 0, none⟩ = some (.int .u64 t397) ∧ w'.cell? ⟨gb402, 1, none⟩ = some (.int .u64 t398) ∧ w'.cell? ⟨gb402, 2, none⟩ = some (.slice (some ad440) t399.length co12) ∧ w'.cell? (ad440.add ((t437).toNat * 3)) = some (.bool ((rd_T46 t399 t437).f0)) ∧ w'.cell? ⟨(ad440.add ((t437).toNat * 3)).block, (ad440.add ((t437).toNat * 3)).off + 1, none⟩ = some (.string ((rd_T46 t399 t437).f1)) ∧ w'.cell? ⟨(ad440.add ((t437).toNat * 3)).block, (ad440.add ((t437).toNat * 3)).off + 2, none⟩ = some (.int .i64 ((rd_T46 t399 t437).f2))) (ds := []) #[false, false, false, false, false, false, false, false, false, false, false, false, false, false, false, false, false, false, false, false, false, false, false, false, false, false, false, false, false, false, false, false, false] (by kernel_rfl) rfl rfl ⟨ce BK396 0, ce BK396 1, ce BK396 2, ce BK402 0, ce BK402 1, ce BK402 2, hx440_0, hx440_1, hx440_2⟩ (fun hHeld => ?_); refine with_tabW samphirelaw12_IndexTells.tab13 samphirelaw12_IndexTells.bits13 (fun HT_ HW_ => ?_)
              generalize w80.drew = w96 at HO_403002 HO412 HO419 BK396 BK402 BK414 BK421 HB hx440_0 hx440_1 hx440_2 hHeld ⊢
              refine ta 0 hHeld ?_
              refine ta 2 hHeld ?_
              refine on1 1 (fun K hK => ?_)
              refine gs Try.func16 #[.agg #[.int .u64 a0_0, .int .u64 a0_1, .slice A0_2 l0_2.length c0_2]] ?_
              with_reducible refine (index_Many.calls kj4 a0_0 a0_1 _ _ l0_2 t438 _ ?side1 ?side2 A81.out).mono ?_
              (case side1 => repeat (first | exact (Kd.C_below HR0_2.out HB.out) | (with_reducible refine Kd.C_alloc ?_ _) | (with_reducible refine Kd.C_drewN ?_ _) | (with_reducible refine Kd.C_drew ?_)))
              (case side2 => exact HC0_2.out)
              rintro e w97 ⟨rfl, hb⟩
              have HS6_ := (hb.cell (World.block_lt_of_cell? _ _ (hHeld.2.2.2.2.2.2.1))).trans (hHeld.2.2.2.2.2.2.1)
              have HS7_ := (hb.cell (World.block_lt_of_cell? _ _ (hHeld.2.2.2.2.2.2.2.1))).trans (hHeld.2.2.2.2.2.2.2.1)
              have HS8_ := (hb.cell (World.block_lt_of_cell? _ _ (hHeld.2.2.2.2.2.2.2.2))).trans (hHeld.2.2.2.2.2.2.2.2)
              refine ⟨_, rfl, ?_⟩
              replace HO_403002 := Aside0.mk (Kd.R_below (pr HO_403002.out) hb)
              replace HO412 := Aside0.mk (Kd.V_below (pv HO412.out) hb)
              replace HO419 := Aside0.mk (Kd.V_below (pv HO419.out) hb)
              replace BK396 := Aside0.mk (blk_below (pk BK396.out) hb)
              replace BK402 := Aside0.mk (blk_below (pk BK402.out) hb)
              replace BK414 := Aside0.mk (blk_below (pk BK414.out) hb)
              replace BK421 := Aside0.mk (blk_below (pk BK421.out) hb)
              replace HB := Aside0.mk (below_step (pb HB) hb)
              (try clear hb)
              (try clear hb2)
              (try clear hk)
              (try clear hi)
              refine hK.out _ _ ⟨ce BK396 0, ce BK396 1, ce BK396 2, ce BK402 0, ce BK402 1, ce BK402 2, HS6_, HS7_, HS8_⟩ (fun hHeld => ?_)
              clear hK K
              refine nm ?_
              refine on1 3 (fun K hK => ?_)
              refine gs Try.func19 #[.agg #[.int .u64 t397, .int .u64 t398, .slice (some ad440) t399.length co12]] ?_
              with_reducible refine (samphireref12_Many.calls kj4 t397 t398 _ _ t399 t439 _ ?side1 ?side2 A82.out).mono ?_
              (case side1 => repeat (first | exact (Kd.R_reads' HO_403002.out).2.2 | (with_reducible refine Kd.C_alloc ?_ _) | (with_reducible refine Kd.C_drewN ?_ _) | (with_reducible refine Kd.C_drew ?_)))
              (case side2 => exact (Kd.R_reads' HO_403002.out).2.1)
              rintro e w98 ⟨rfl, hb⟩
              have HS6_ := (hb.cell (World.block_lt_of_cell? _ _ (hHeld.2.2.2.2.2.2.1))).trans (hHeld.2.2.2.2.2.2.1)
              have HS7_ := (hb.cell (World.block_lt_of_cell? _ _ (hHeld.2.2.2.2.2.2.2.1))).trans (hHeld.2.2.2.2.2.2.2.1)
              have HS8_ := (hb.cell (World.block_lt_of_cell? _ _ (hHeld.2.2.2.2.2.2.2.2))).trans (hHeld.2.2.2.2.2.2.2.2)
              refine ⟨_, rfl, ?_⟩
              replace HO_403002 := Aside0.mk (Kd.R_below (pr HO_403002.out) hb)
              replace HO412 := Aside0.mk (Kd.V_below (pv HO412.out) hb)
              replace HO419 := Aside0.mk (Kd.V_below (pv HO419.out) hb)
              replace BK396 := Aside0.mk (blk_below (pk BK396.out) hb)
              replace BK402 := Aside0.mk (blk_below (pk BK402.out) hb)
              replace BK414 := Aside0.mk (blk_below (pk BK414.out) hb)
              replace BK421 := Aside0.mk (blk_below (pk BK421.out) hb)
              replace HB := Aside0.mk (below_step (pb HB) hb)
              (try clear hb)
              (try clear hb2)
              (try clear hk)
              (try clear hi)
              refine hK.out _ _ ⟨ce BK396 0, ce BK396 1, ce BK396 2, ce BK402 0, ce BK402 1, ce BK402 2, HS6_, HS7_, HS8_⟩ (fun hHeld => ?_)
              clear hK K
              refine nm ?_
              refine pu 4 ?_
              refine pu 5 ?_
              refine pu 6 ?_
              refine pu 7 ?_
              refine pu 8 ?_
              refine pu 9 ?_
              refine pu 10 ?_
              refine pu 11 ?_
              refine pu 12 ?_
              refine pu 13 ?_
              refine pu 14 ?_
              refine pu 15 ?_
              refine pu 16 ?_
              refine pu 18 ?_
              refine ta 17 hHeld ?_
              refine pu 19 ?_
              refine pu 20 ?_
              refine ta 21 hHeld ?_
              refine pu 22 ?_
              refine pu 23 ?_
              refine pu 24 ?_
              refine pu 25 ?_
              refine pu 26 ?_
              refine pu 27 ?_
              refine pu 28 ?_
              refine po 29 ?_
              refine po 30 ?_
              refine pu 31 ?_
              refine pu 32 ?_
              refine done_ (done_of HT_.out (by kernel_rfl)) ?_
              try go_wp2
              go_meet
              case rel => exact ⟨_, (false), (by first | rfl | (simp; done) | (simp [*]; done)), H', ⟨by have := HJ4.out; first | omega | exact Nat.le_refl _⟩, ⟨pr HO_403002.out⟩, ⟨by refine pv ?_; exact Kd.V_mono HO412.out (fun _ hk => ⟨hk.1.1, ⟨hk.1.2.1, ⟨hk.1.2.2.1, ⟨hk.1.2.2.2, hk.2⟩⟩⟩⟩)⟩, ⟨by refine pv ?_; exact Kd.V_mono HO419.out (fun _ hk => ⟨hk.1.1, ⟨hk.1.2.1, ⟨hk.1.2.2.1, ⟨hk.1.2.2.2, hk.2⟩⟩⟩⟩)⟩, ⟨pk BK396.out⟩, ⟨pk BK402.out⟩, ⟨pk BK414.out⟩, ⟨pk BK421.out⟩, ⟨pb HB⟩⟩
            ·rw [if_neg c91] at H
             exact (samphirelaw12_IndexTells.j1_true H hrT).elim
           ·rw [if_neg c90] at H
            exact absurd H (by simp)
          ·rw [if_neg c89] at H
           exact absurd H (by simp)
         ·rw [if_neg c88] at H
          have c88b0 : decide (0 ≤ t437) = false := decide_eq_false c88
          have cxc88 : t407 = false := (bne_eq_false_iff_eq.mp c84b0).trans c88b0
          clear c88
          by_cases c102 : t437 < 0
          ·rw [if_pos c102] at H
           have c102b0 : decide (t437 < 0) = true := decide_eq_true c102
           clear c102
           have H' := Aside0.mk H
           clear H
           try go_wp2
           replace HO_403002 := Aside0.mk (Kd.R_drew HO_403002.out)
           replace HO412 := Aside0.mk (Kd.V_drew HO412.out)
           replace HO419 := Aside0.mk (Kd.V_drew HO419.out)
           replace BK396 := Aside0.mk (blk_drew BK396.out)
           replace BK402 := Aside0.mk (blk_drew BK402.out)
           replace BK414 := Aside0.mk (blk_drew BK414.out)
           replace BK421 := Aside0.mk (blk_drew BK421.out)
           replace HB := Aside0.mk (below_drew1 HB.out)
           refine start_ (n := 33) (S := fun w' => w'.cell? ⟨gb396, 0, none⟩ = some (.int .u64 a0_0) ∧ w'.cell? ⟨gb396, 1, none⟩ = some (.int .u64 a0_1) ∧ w'.cell? ⟨gb396, 2, none⟩ = some (.slice A0_2 l0_2.length c0_2) ∧ w'.cell? ⟨gb402, 0, none⟩ = some (.int .u64 t397) ∧ w'.cell? ⟨gb402, 1, none⟩ = some (.int .u64 t398) ∧ w'.cell? ⟨gb402, 2, none⟩ = some (.slice Ao12 t399.length co12)) (ds := []) #[false, false, false, false, false, false, false, false, false, false, false, false, false, false, false, false, false, false, false, false, false, false, false, false, false, false, false, false, false, false, false, false, false] (by kernel_rfl) rfl rfl ⟨ce BK396 0, ce BK396 1, ce BK396 2, ce BK402 0, ce BK402 1, ce BK402 2⟩ (fun hHeld => ?_); refine with_tabW samphirelaw12_IndexTells.tab13 samphirelaw12_IndexTells.bits13 (fun HT_ HW_ => ?_)
           generalize w80.drew = w103 at HO_403002 HO412 HO419 BK396 BK402 BK414 BK421 HB hHeld ⊢
           refine ta 0 hHeld ?_
           refine ta 2 hHeld ?_
           refine on1 1 (fun K hK => ?_)
           refine gs Try.func16 #[.agg #[.int .u64 a0_0, .int .u64 a0_1, .slice A0_2 l0_2.length c0_2]] ?_
           with_reducible refine (index_Many.calls kj4 a0_0 a0_1 _ _ l0_2 t438 _ ?side1 ?side2 A81.out).mono ?_
           (case side1 => repeat (first | exact (Kd.C_below HR0_2.out HB.out) | (with_reducible refine Kd.C_alloc ?_ _) | (with_reducible refine Kd.C_drewN ?_ _) | (with_reducible refine Kd.C_drew ?_)))
           (case side2 => exact HC0_2.out)
           rintro e w104 ⟨rfl, hb⟩
           refine ⟨_, rfl, ?_⟩
           replace HO_403002 := Aside0.mk (Kd.R_below (pr HO_403002.out) hb)
           replace HO412 := Aside0.mk (Kd.V_below (pv HO412.out) hb)
           replace HO419 := Aside0.mk (Kd.V_below (pv HO419.out) hb)
           replace BK396 := Aside0.mk (blk_below (pk BK396.out) hb)
           replace BK402 := Aside0.mk (blk_below (pk BK402.out) hb)
           replace BK414 := Aside0.mk (blk_below (pk BK414.out) hb)
           replace BK421 := Aside0.mk (blk_below (pk BK421.out) hb)
           replace HB := Aside0.mk (below_step (pb HB) hb)
           (try clear hb)
           (try clear hb2)
           (try clear hk)
           (try clear hi)
           refine hK.out _ _ ⟨ce BK396 0, ce BK396 1, ce BK396 2, ce BK402 0, ce BK402 1, ce BK402 2⟩ (fun hHeld => ?_)
           clear hK K
           refine nm ?_
           refine on1 3 (fun K hK => ?_)
           refine gs Try.func19 #[.agg #[.int .u64 t397, .int .u64 t398, .slice Ao12 t399.length co12]] ?_
           with_reducible refine (samphireref12_Many.calls kj4 t397 t398 _ _ t399 t439 _ ?side1 ?side2 A82.out).mono ?_
           (case side1 => repeat (first | exact (Kd.R_reads' HO_403002.out).2.2 | (with_reducible refine Kd.C_alloc ?_ _) | (with_reducible refine Kd.C_drewN ?_ _) | (with_reducible refine Kd.C_drew ?_)))
           (case side2 => exact (Kd.R_reads' HO_403002.out).2.1)
           rintro e w105 ⟨rfl, hb⟩
           refine ⟨_, rfl, ?_⟩
           replace HO_403002 := Aside0.mk (Kd.R_below (pr HO_403002.out) hb)
           replace HO412 := Aside0.mk (Kd.V_below (pv HO412.out) hb)
           replace HO419 := Aside0.mk (Kd.V_below (pv HO419.out) hb)
           replace BK396 := Aside0.mk (blk_below (pk BK396.out) hb)
           replace BK402 := Aside0.mk (blk_below (pk BK402.out) hb)
           replace BK414 := Aside0.mk (blk_below (pk BK414.out) hb)
           replace BK421 := Aside0.mk (blk_below (pk BK421.out) hb)
           replace HB := Aside0.mk (below_step (pb HB) hb)
           (try clear hb)
           (try clear hb2)
           (try clear hk)
           (try clear hi)
           refine hK.out _ _ ⟨ce BK396 0, ce BK396 1, ce BK396 2, ce BK402 0, ce BK402 1, ce BK402 2⟩ (fun hHeld => ?_)
           clear hK K
           refine nm ?_
           refine pu 4 ?_
           refine pu 5 ?_
           refine pu 6 ?_
           refine pu 7 ?_
           refine pu 8 ?_
           refine pu 9 ?_
           refine pu 10 ?_
           refine pu 11 ?_
           refine pu 12 ?_
           refine pu 13 ?_
           refine pu 14 ?_
           refine po 15 ?_
           refine po 16 ?_
           refine po 17 ?_
           refine po 18 ?_
           refine po 19 ?_
           refine po 20 ?_
           refine po 21 ?_
           refine po 22 ?_
           refine pu 23 ?_
           refine pu 24 ?_
           refine pu 25 ?_
           refine pu 26 ?_
           refine pu 27 ?_
           refine pu 28 ?_
           refine pu 29 ?_
           refine pu 30 ?_
           refine pu 31 ?_
           refine pu 32 ?_
           refine done_ (done_of HT_.out (by kernel_rfl)) ?_
           try go_wp2
           go_meet
           case rel => exact ⟨_, ((t406 != 0)), (by first | rfl | (simp; done) | (simp [*]; done)), H', ⟨by have := HJ4.out; first | omega | exact Nat.le_refl _⟩, ⟨pr HO_403002.out⟩, ⟨by refine pv ?_; exact Kd.V_mono HO412.out (fun _ hk => ⟨hk.1.1, ⟨hk.1.2.1, ⟨hk.1.2.2.1, ⟨hk.1.2.2.2, hk.2⟩⟩⟩⟩)⟩, ⟨by refine pv ?_; exact Kd.V_mono HO419.out (fun _ hk => ⟨hk.1.1, ⟨hk.1.2.1, ⟨hk.1.2.2.1, ⟨hk.1.2.2.2, hk.2⟩⟩⟩⟩)⟩, ⟨pk BK396.out⟩, ⟨pk BK402.out⟩, ⟨pk BK414.out⟩, ⟨pk BK421.out⟩, ⟨pb HB⟩⟩
          ·rw [if_neg c102] at H
           exact absurd (of_decide_eq_false c88b0) (by omega)
       ·rw [if_neg c83] at H
        exact (samphirelaw12_IndexTells.j1_true H hrT).elim
      case rest =>
       clear HC55
       try clear c1
       try clear p2
       try clear c8
       try clear c16
       try clear c19
       try clear c83
       try clear c83b0
       try clear c83b1
       obtain ⟨kq, x127_54, rfl, HA, HJ54, HO_403002, HO_415002, HO_422002, BK396, BK402, BK414, BK421, HB⟩ := hcut
       cases kq with
       | zero => exact absurd HA.out (by simp [samphirelaw12_IndexTells.j1])
       | succ kj54 =>
        have H := HA.out
        clear HA
        simp only [samphirelaw12_IndexTells.j1] at H
        by_cases c112 : x127_54 = true
        ·subst c112
         have H1 : (some false) = some r := by rw [if_pos rfl] at H; exact H
         clear H
         have H := H1
         clear H1
         obtain rfl := Option.some.inj H
         go_wp2
         go_ret
         exact ⟨by first | rfl | (simp [errW_none, errW_some] <;> rfl) | (simp [*, errW_none, errW_some] <;> rfl), pb HB⟩
        ·replace c112 := Bool.eq_false_iff.mpr c112
         subst c112
         have H1 : ((samphireref12_Put.f kj54 t397 t398 t399 a1 a2).bind fun bt441 => ((samphireref12_Delete.f kj54 t397 t398 t399 a1).bind fun bt448 => ((samphirelaw12_Ref.f kj54 t408 t409 t410).bind fun bt455 => ((samphireref12_Same.f kj54 bt455.1 bt455.2.1 bt455.2.2 bt441.1 bt441.2.1 bt441.2.2.1).bind fun t460 => (if t460 = true then (if t413 = bt441.2.2.2 then ((samphirelaw12_Ref.f kj54 t415 t416 t417).bind fun bt461 => ((samphireref12_Same.f kj54 bt461.1 bt461.2.1 bt461.2.2 bt448.1 bt448.2.1 bt448.2.2.1).bind fun t466 => (if t466 = true then (if t420 = bt448.2.2.2 then ((samphirelaw12_awake.f kj54).bind fun t467 => (some t467)) else (some false)) else (some false)))) else (some false)) else (some false)))))) = some r := by rw [if_neg (show ¬ (false = true) by decide)] at H; exact H
         clear H
         have H := H1
         clear H1
         replace H := Option.bind_eq_some_iff.mp H
         obtain ⟨⟨t441, t442, t443, t446⟩, A1130, H⟩ := H
         replace H : ((samphireref12_Delete.f kj54 t397 t398 t399 a1).bind fun bt448 => ((samphirelaw12_Ref.f kj54 t408 t409 t410).bind fun bt455 => ((samphireref12_Same.f kj54 bt455.1 bt455.2.1 bt455.2.2 t441 t442 t443).bind fun t460 => (if t460 = true then (if t413 = t446 then ((samphirelaw12_Ref.f kj54 t415 t416 t417).bind fun bt461 => ((samphireref12_Same.f kj54 bt461.1 bt461.2.1 bt461.2.2 bt448.1 bt448.2.1 bt448.2.2.1).bind fun t466 => (if t466 = true then (if t420 = bt448.2.2.2 then ((samphirelaw12_awake.f kj54).bind fun t467 => (some t467)) else (some false)) else (some false)))) else (some false)) else (some false))))) = some r := H
         have A113 := Aside0.mk A1130
         clear A1130
         replace H := Option.bind_eq_some_iff.mp H
         obtain ⟨⟨t448, t449, t450, t453⟩, A1140, H⟩ := H
         replace H : ((samphirelaw12_Ref.f kj54 t408 t409 t410).bind fun bt455 => ((samphireref12_Same.f kj54 bt455.1 bt455.2.1 bt455.2.2 t441 t442 t443).bind fun t460 => (if t460 = true then (if t413 = t446 then ((samphirelaw12_Ref.f kj54 t415 t416 t417).bind fun bt461 => ((samphireref12_Same.f kj54 bt461.1 bt461.2.1 bt461.2.2 t448 t449 t450).bind fun t466 => (if t466 = true then (if t420 = t453 then ((samphirelaw12_awake.f kj54).bind fun t467 => (some t467)) else (some false)) else (some false)))) else (some false)) else (some false)))) = some r := H
         have A114 := Aside0.mk A1140
         clear A1140
         replace H := Option.bind_eq_some_iff.mp H
         obtain ⟨⟨t455, t456, t457⟩, A1150, H⟩ := H
         replace H : ((samphireref12_Same.f kj54 t455 t456 t457 t441 t442 t443).bind fun t460 => (if t460 = true then (if t413 = t446 then ((samphirelaw12_Ref.f kj54 t415 t416 t417).bind fun bt461 => ((samphireref12_Same.f kj54 bt461.1 bt461.2.1 bt461.2.2 t448 t449 t450).bind fun t466 => (if t466 = true then (if t420 = t453 then ((samphirelaw12_awake.f kj54).bind fun t467 => (some t467)) else (some false)) else (some false)))) else (some false)) else (some false))) = some r := H
         have A115 := Aside0.mk A1150
         clear A1150
         replace H := Option.bind_eq_some_iff.mp H
         obtain ⟨t460, A1160, H⟩ := H
         replace H : (if t460 = true then (if t413 = t446 then ((samphirelaw12_Ref.f kj54 t415 t416 t417).bind fun bt461 => ((samphireref12_Same.f kj54 bt461.1 bt461.2.1 bt461.2.2 t448 t449 t450).bind fun t466 => (if t466 = true then (if t420 = t453 then ((samphirelaw12_awake.f kj54).bind fun t467 => (some t467)) else (some false)) else (some false)))) else (some false)) else (some false)) = some r := H
         have A116 := Aside0.mk A1160
         clear A1160
         by_cases c117 : t460 = true
         ·subst c117
          have H1 : (if t413 = t446 then ((samphirelaw12_Ref.f kj54 t415 t416 t417).bind fun bt461 => ((samphireref12_Same.f kj54 bt461.1 bt461.2.1 bt461.2.2 t448 t449 t450).bind fun t466 => (if t466 = true then (if t420 = t453 then ((samphirelaw12_awake.f kj54).bind fun t467 => (some t467)) else (some false)) else (some false)))) else (some false)) = some r := by rw [if_pos rfl] at H; exact H
          clear H
          have H := H1
          clear H1
          by_cases c118 : t413 = t446
          ·rw [if_pos c118] at H
           have c118b0 : (t413 == t446) = true := beq_iff_eq.mpr c118
           have c118b1 : (t413 != t446) = false := bne_eq_false_iff_eq.mpr c118
           clear c118
           replace H := Option.bind_eq_some_iff.mp H
           obtain ⟨⟨t461, t462, t463⟩, A1190, H⟩ := H
           replace H : ((samphireref12_Same.f kj54 t461 t462 t463 t448 t449 t450).bind fun t466 => (if t466 = true then (if t420 = t453 then ((samphirelaw12_awake.f kj54).bind fun t467 => (some t467)) else (some false)) else (some false))) = some r := H
           have A119 := Aside0.mk A1190
           clear A1190
           replace H := Option.bind_eq_some_iff.mp H
           obtain ⟨t466, A1200, H⟩ := H
           replace H : (if t466 = true then (if t420 = t453 then ((samphirelaw12_awake.f kj54).bind fun t467 => (some t467)) else (some false)) else (some false)) = some r := H
           have A120 := Aside0.mk A1200
           clear A1200
           by_cases c121 : t466 = true
           ·subst c121
            have H1 : (if t420 = t453 then ((samphirelaw12_awake.f kj54).bind fun t467 => (some t467)) else (some false)) = some r := by rw [if_pos rfl] at H; exact H
            clear H
            have H := H1
            clear H1
            by_cases c122 : t420 = t453
            ·rw [if_pos c122] at H
             have c122b0 : (t420 == t453) = true := beq_iff_eq.mpr c122
             have c122b1 : (t420 != t453) = false := bne_eq_false_iff_eq.mpr c122
             clear c122
             replace H := Option.bind_eq_some_iff.mp H
             obtain ⟨t467, A1230, H⟩ := H
             replace H : (some t467) = some r := H
             have A123 := Aside0.mk A1230
             clear A1230
             obtain rfl := Option.some.inj H
             have hnb124 := NB402_396.out
             have hnc124 := NB396_402.out
             have hnb125 := NB402_414.out
             have hnc125 := NB414_402.out
             have hnb126 := NB402_421.out
             have hnc126 := NB421_402.out
             have hcz127_0 := ce BK402 0
             have hcz127_1 := ce BK402 1
             have hcz127_2 := ce BK402 2
             have hfz127_0 := fz BK402 0
             have hfz127_1 := fz BK402 1
             have hfz127_2 := fz BK402 2
             try go_wp2_with (first | ((with_reducible refine gate_callee (f := 20) rfl ?_); refine gl (some 132) Try.func20 #[.agg #[.int .u64 t397, .int .u64 t398, .slice Ao12 t399.length co12], .string a1, .int .i64 a2] ?_; (with_reducible refine (samphireref12_Put.calls kj54 t397 t398 (fun k_ => some k_ = (.slice Ao12 t399.length co12 : Value).ownBlock) _ _ t399 a1 a2 t441 t442 t443 t446 _ ?side1 A113.out).mono ?_); (case side1 => exact Kd.R_V (Kd.R_tight rfl (Kd.R_types (Kd.R_types (Kd.R_types (Kd.R_types (HO_403002.out) BK396.out (by decide)) BK402.out (by decide)) BK414.out (by decide)) BK421.out (by decide)))); rintro e w128 ⟨v444, rfl, ho0, hb⟩; refine ⟨_, rfl, ?_⟩; have n0_ := Aside0.mk (Kd.R_below (pr HO_403002.out) hb); have n1_ := Aside0.mk (Kd.V_below (pv HO_415002.out) hb); have n2_ := Aside0.mk (Kd.V_below (pv HO_422002.out) hb); have n3_ := Aside0.mk (Kd.V_lower (Kd.V_mono (ok' := fun k_ => k_ ≠ gb396 ∧ k_ ≠ gb402 ∧ k_ ≠ gb414 ∧ k_ ≠ gb421) ho0 (fun k_ hk_ => ⟨Or.elim hk_ (fun hs_ => ((Kd.R_types (Kd.R_types (Kd.R_types (Kd.R_types (HO_403002.out) BK396.out (by decide)) BK402.out (by decide)) BK414.out (by decide)) BK421.out (by decide)).1 k_ hs_.symm).1.1.1.2) (fun hn_ => (Kd.freshB (g := gb396) (o := .cells #[.int .u64 a0_0, .int .u64 a0_1, .slice A0_2 l0_2.length c0_2] 27 (0, 0)) (pk BK396.out) k_ hn_)), Or.elim hk_ (fun hs_ => ((Kd.R_types (Kd.R_types (Kd.R_types (Kd.R_types (HO_403002.out) BK396.out (by decide)) BK402.out (by decide)) BK414.out (by decide)) BK421.out (by decide)).1 k_ hs_.symm).1.1.2) (fun hn_ => (Kd.freshB (g := gb402) (o := .cells #[.int .u64 t397, .int .u64 t398, .slice Ao12 t399.length co12] 30 (0, 0)) (pk BK402.out) k_ hn_)), Or.elim hk_ (fun hs_ => ((Kd.R_types (Kd.R_types (Kd.R_types (Kd.R_types (HO_403002.out) BK396.out (by decide)) BK402.out (by decide)) BK414.out (by decide)) BK421.out (by decide)).1 k_ hs_.symm).1.2) (fun hn_ => (Kd.freshB (g := gb414) (o := .cells #[.int .u64 t408, .int .u64 t409, .slice Ao67 t410.length co67] 27 (0, 0)) (pk BK414.out) k_ hn_)), Or.elim hk_ (fun hs_ => ((Kd.R_types (Kd.R_types (Kd.R_types (Kd.R_types (HO_403002.out) BK396.out (by decide)) BK402.out (by decide)) BK414.out (by decide)) BK421.out (by decide)).1 k_ hs_.symm).2) (fun hn_ => (Kd.freshB (g := gb421) (o := .cells #[.int .u64 t415, .int .u64 t416, .slice Ao76 t417.length co76] 27 (0, 0)) (pk BK421.out) k_ hn_))⟩)) (below_size (pb HB))); have n4_ := Aside0.mk (blk_below (pk BK396.out) hb); have n5_ := Aside0.mk (blk_below (pk BK402.out) hb); have n6_ := Aside0.mk (blk_below (pk BK414.out) hb); have n7_ := Aside0.mk (blk_below (pk BK421.out) hb); have n8_ := Aside0.mk (below_step (pb HB) hb); clear HO_403002; clear HO_415002; clear HO_422002; clear BK396; clear BK402; clear BK414; clear BK421; clear HB; have HO_403002 := n0_; have HO_415002 := n1_; have HO_422002 := n2_; have HO445 := n3_; have BK396 := n4_; have BK402 := n5_; have BK414 := n6_; have BK421 := n7_; have HB := n8_; clear n0_ n1_ n2_ n3_ n4_ n5_ n6_ n7_ n8_; (try clear hb); (try clear hb2); (try clear hk); (try clear hi); (try clear ho0)) | ((with_reducible refine gate_dst (N := 16) rfl ?_); (try (refine gate_guard (by rfl) ?_; dsimp only)); refine box_event ?hg (N := 16) ?hd (cs := #[.int .u64 0, .int .u64 0, .slice none 0 0]) (t := 30) ?hr ?_; (case hd => rfl); (case hg => rfl); (case hr => first | (go_simp; done) | (go_simp; rfl)); intro gb447 hg w129 hbox hb; have n0_ := Aside0.mk (Kd.R_below (pr HO_403002.out) hb); have n1_ := Aside0.mk (Kd.V_below (Kd.V_elderB (pv HO_415002.out) gb447 (Nat.le_of_eq hg.symm)) hb); have n2_ := Aside0.mk (Kd.V_below (Kd.V_elderB (pv HO_422002.out) gb447 (Nat.le_of_eq hg.symm)) hb); have n3_ := Aside0.mk (Kd.V_below (Kd.V_elderB (pv HO445.out) gb447 (Nat.le_of_eq hg.symm)) hb); have n4_ := Aside0.mk (blk_below (pk BK396.out) hb); have n5_ := Aside0.mk (blk_below (pk BK402.out) hb); have n6_ := Aside0.mk (blk_below (pk BK414.out) hb); have n7_ := Aside0.mk (blk_below (pk BK421.out) hb); have n8_ := Aside0.mk (below_step (pb HB) hb); have n9_ := Aside0.mk (hbox); have n10_ := Aside0.mk ((pg hg HB : w.heap.size ≤ gb447)); have n11_ := Aside0.mk ((pg hg HB : w.heap.size ≤ gb447)); have n12_ := Aside0.mk ((pl hg (pk BK396.out) : gb396 ≠ gb447)); have n13_ := Aside0.mk ((pl' hg (pk BK396.out) : gb447 ≠ gb396)); have n14_ := Aside0.mk ((pl hg (pk BK402.out) : gb402 ≠ gb447)); have n15_ := Aside0.mk ((pl' hg (pk BK402.out) : gb447 ≠ gb402)); have n16_ := Aside0.mk ((pl hg (pk BK414.out) : gb414 ≠ gb447)); have n17_ := Aside0.mk ((pl' hg (pk BK414.out) : gb447 ≠ gb414)); have n18_ := Aside0.mk ((pl hg (pk BK421.out) : gb421 ≠ gb447)); have n19_ := Aside0.mk ((pl' hg (pk BK421.out) : gb447 ≠ gb421)); clear HO_403002; clear HO_415002; clear HO_422002; clear HO445; clear BK396; clear BK402; clear BK414; clear BK421; clear HB; have HO_403002 := n0_; have HO_415002 := n1_; have HO_422002 := n2_; have HO445 := n3_; have BK396 := n4_; have BK402 := n5_; have BK414 := n6_; have BK421 := n7_; have HB := n8_; have BK447 := n9_; have GW447 := n10_; have GE447 := n11_; have NB396_447 := n12_; have NB447_396 := n13_; have NB402_447 := n14_; have NB447_402 := n15_; have NB414_447 := n16_; have NB447_414 := n17_; have NB421_447 := n18_; have NB447_421 := n19_; clear n0_ n1_ n2_ n3_ n4_ n5_ n6_ n7_ n8_ n9_ n10_ n11_ n12_ n13_ n14_ n15_ n16_ n17_ n18_ n19_; clear hb hbox hg; have hnb130 := NB447_396.out; have hnc130 := NB396_447.out; have hnb131 := NB447_402.out; have hnc131 := NB402_447.out; have hnb132 := NB447_414.out; have hnc132 := NB414_447.out; have hnb133 := NB447_421.out; have hnc133 := NB421_447.out; have hcz134_0 := ce BK447 0; have hcz134_1 := ce BK447 1; have hcz134_2 := ce BK447 2; have hfz134_0 := fz BK447 0; have hfz134_1 := fz BK447 1; have hfz134_2 := fz BK447 2; obtain ⟨Ao135, co135, eo135⟩ := Kd.V_slice HO445.out; subst eo135) | ((with_reducible refine gate_store (t := 30) (p := 16) rfl ?_); refine store_event (t := 30) (p := 16) (v := ?vo_w136) (w1 := (((w129.setCell ⟨gb447, 0, none⟩ (.int .u64 t441)).setCell ⟨gb447, 1, none⟩ (.int .u64 t442)).setCell ⟨gb447, 2, none⟩ (.slice Ao135 t443.length co135))) ?hg ?ho ?hn ?hr ?_; (case ho => rfl); (case hg => rfl); (case hn => rfl); (case hr => first | (go_simp; done) | (go_simp; rfl)); intro w136 hw; have n0_ : Aside0 (Kd.R k46 46 w136 w.heap.size (fun _ => True) (.slice Ao12 t399.length co12) t399) := ⟨(by rw [hw]; exact (pr (Kd.R_mono (Kd.R_far (p := ⟨gb447, 2, none⟩) (Kd.R_far (p := ⟨gb447, 1, none⟩) (Kd.R_far (p := ⟨gb447, 0, none⟩) (Kd.R_types HO_403002.out BK447.out (by decide)) (fun _ hk => hk.2) (.int .u64 t441)) (fun _ hk => hk.2) (.int .u64 t442)) (fun _ hk => hk.2) (.slice Ao135 t443.length co135)) (fun _ hk => trivial))))⟩; have n1_ : Aside0 (Kd.V k60 60 w136 w.heap.size (fun k_ => some k_ ≠ (.slice Ao12 t399.length co12 : Value).ownBlock ∧ k_ ≠ gb396 ∧ k_ ≠ gb402 ∧ k_ ≠ gb414 ∧ k_ ≠ gb421 ∧ k_ ≠ gb447) (.slice Ao67 t410.length co67) t410) := ⟨(by rw [hw]; exact (pv (Kd.V_mono (Kd.V_far (p := ⟨gb447, 2, none⟩) (Kd.V_far (p := ⟨gb447, 1, none⟩) (Kd.V_far (p := ⟨gb447, 0, none⟩) (Kd.V_mono HO_415002.out (fun k_ hk => (⟨hk, hk.2⟩ : _ ∧ k_ ≠ gb447))) (fun _ hk => hk.2) (.int .u64 t441)) (fun _ hk => hk.2) (.int .u64 t442)) (fun _ hk => hk.2) (.slice Ao135 t443.length co135)) (fun _ hk => ⟨hk.1.1.1, ⟨hk.1.1.2.1, ⟨hk.1.1.2.2.1, ⟨hk.1.1.2.2.2.1, ⟨hk.1.1.2.2.2.2, hk.1.2⟩⟩⟩⟩⟩))))⟩; have n2_ : Aside0 (Kd.V k60 60 w136 w.heap.size (fun k_ => some k_ ≠ (.slice Ao12 t399.length co12 : Value).ownBlock ∧ k_ ≠ gb396 ∧ k_ ≠ gb402 ∧ k_ ≠ gb414 ∧ k_ ≠ gb421 ∧ k_ ≠ gb447) (.slice Ao76 t417.length co76) t417) := ⟨(by rw [hw]; exact (pv (Kd.V_mono (Kd.V_far (p := ⟨gb447, 2, none⟩) (Kd.V_far (p := ⟨gb447, 1, none⟩) (Kd.V_far (p := ⟨gb447, 0, none⟩) (Kd.V_mono HO_422002.out (fun k_ hk => (⟨hk, hk.2⟩ : _ ∧ k_ ≠ gb447))) (fun _ hk => hk.2) (.int .u64 t441)) (fun _ hk => hk.2) (.int .u64 t442)) (fun _ hk => hk.2) (.slice Ao135 t443.length co135)) (fun _ hk => ⟨hk.1.1.1, ⟨hk.1.1.2.1, ⟨hk.1.1.2.2.1, ⟨hk.1.1.2.2.2.1, ⟨hk.1.1.2.2.2.2, hk.1.2⟩⟩⟩⟩⟩))))⟩; have n3_ : Aside0 (Kd.V k46 46 w136 w.heap.size (fun k_ => k_ ≠ gb396 ∧ k_ ≠ gb402 ∧ k_ ≠ gb414 ∧ k_ ≠ gb421 ∧ k_ ≠ gb447) (.slice Ao135 t443.length co135) t443) := ⟨(by rw [hw]; exact (pv (Kd.V_mono (Kd.V_far (p := ⟨gb447, 2, none⟩) (Kd.V_far (p := ⟨gb447, 1, none⟩) (Kd.V_far (p := ⟨gb447, 0, none⟩) (Kd.V_mono HO445.out (fun k_ hk => (⟨hk, hk.2⟩ : _ ∧ k_ ≠ gb447))) (fun _ hk => hk.2) (.int .u64 t441)) (fun _ hk => hk.2) (.int .u64 t442)) (fun _ hk => hk.2) (.slice Ao135 t443.length co135)) (fun _ hk => ⟨hk.1.1.1, ⟨hk.1.1.2.1, ⟨hk.1.1.2.2.1, ⟨hk.1.1.2.2.2, hk.1.2⟩⟩⟩⟩))))⟩; have n4_ : Aside0 (w136.heap[gb396]? = some (.cells #[.int .u64 a0_0, .int .u64 a0_1, .slice A0_2 l0_2.length c0_2] 27 (0, 0))) := ⟨(by rw [hw]; exact (by refine pk ?_; refine blk_far ?_ NB396_447.out _; refine pk ?_; refine blk_far ?_ NB396_447.out _; refine pk ?_; refine blk_far ?_ NB396_447.out _; refine pk ?_; exact BK396.out))⟩; have n5_ : Aside0 (w136.heap[gb402]? = some (.cells #[.int .u64 t397, .int .u64 t398, .slice Ao12 t399.length co12] 30 (0, 0))) := ⟨(by rw [hw]; exact (by refine pk ?_; refine blk_far ?_ NB402_447.out _; refine pk ?_; refine blk_far ?_ NB402_447.out _; refine pk ?_; refine blk_far ?_ NB402_447.out _; refine pk ?_; exact BK402.out))⟩; have n6_ : Aside0 (w136.heap[gb414]? = some (.cells #[.int .u64 t408, .int .u64 t409, .slice Ao67 t410.length co67] 27 (0, 0))) := ⟨(by rw [hw]; exact (by refine pk ?_; refine blk_far ?_ NB414_447.out _; refine pk ?_; refine blk_far ?_ NB414_447.out _; refine pk ?_; refine blk_far ?_ NB414_447.out _; refine pk ?_; exact BK414.out))⟩; have n7_ : Aside0 (w136.heap[gb421]? = some (.cells #[.int .u64 t415, .int .u64 t416, .slice Ao76 t417.length co76] 27 (0, 0))) := ⟨(by rw [hw]; exact (by refine pk ?_; refine blk_far ?_ NB421_447.out _; refine pk ?_; refine blk_far ?_ NB421_447.out _; refine pk ?_; refine blk_far ?_ NB421_447.out _; refine pk ?_; exact BK421.out))⟩; have n8_ : Aside0 (w136.heap[gb447]? = some (.cells #[.int .u64 t441, .int .u64 t442, .slice Ao135 t443.length co135] 30 (0, 0))) := ⟨(by rw [hw]; exact (by refine pk ?_; refine blk_put (cs := #[.int .u64 t441, .int .u64 t442, .slice none 0 0]) ?_ 2 _ rfl; refine pk ?_; refine blk_put (cs := #[.int .u64 t441, .int .u64 0, .slice none 0 0]) ?_ 1 _ rfl; refine pk ?_; refine blk_put (cs := #[.int .u64 0, .int .u64 0, .slice none 0 0]) ?_ 0 _ rfl; refine pk ?_; exact BK447.out))⟩; have n9_ : Aside0 (Below w.heap.size w w136) := ⟨(by rw [hw]; exact (pb HB))⟩; clear hw; clear HO_403002; clear HO_415002; clear HO_422002; clear HO445; clear BK396; clear BK402; clear BK414; clear BK421; clear BK447; clear HB; have HO_403002 := n0_; have HO_415002 := n1_; have HO_422002 := n2_; have HO445 := n3_; have BK396 := n4_; have BK402 := n5_; have BK414 := n6_; have BK421 := n7_; have BK447 := n8_; have HB := n9_; clear n0_ n1_ n2_ n3_ n4_ n5_ n6_ n7_ n8_ n9_; have hcz137_0 := ce BK402 0; have hcz137_1 := ce BK402 1; have hcz137_2 := ce BK402 2; have hfz137_0 := fz BK402 0; have hfz137_1 := fz BK402 1; have hfz137_2 := fz BK402 2) | ((with_reducible refine gate_callee (f := 21) rfl ?_); refine gl (some 138) Try.func21 #[.agg #[.int .u64 t397, .int .u64 t398, .slice Ao12 t399.length co12], .string a1] ?_; (with_reducible refine (samphireref12_Delete.calls kj54 t397 t398 (fun k_ => some k_ = (.slice Ao12 t399.length co12 : Value).ownBlock) _ _ t399 a1 t448 t449 t450 t453 _ ?side1 A114.out).mono ?_); (case side1 => exact Kd.R_V (Kd.R_tight rfl (Kd.R_types (Kd.R_types (Kd.R_types (Kd.R_types (Kd.R_types (HO_403002.out) BK396.out (by decide)) BK402.out (by decide)) BK414.out (by decide)) BK421.out (by decide)) BK447.out (by decide)))); rintro e w138 ⟨v451, rfl, ho0, hb⟩; refine ⟨_, rfl, ?_⟩; have n0_ := Aside0.mk (Kd.R_below (pr HO_403002.out) hb); have n1_ := Aside0.mk (Kd.V_below (pv HO_415002.out) hb); have n2_ := Aside0.mk (Kd.V_below (pv HO_422002.out) hb); have n3_ := Aside0.mk (Kd.V_below (pv HO445.out) hb); have n4_ := Aside0.mk (Kd.V_lower (Kd.V_mono (ok' := fun k_ => k_ ≠ gb396 ∧ k_ ≠ gb402 ∧ k_ ≠ gb414 ∧ k_ ≠ gb421 ∧ k_ ≠ gb447) ho0 (fun k_ hk_ => ⟨Or.elim hk_ (fun hs_ => ((Kd.R_types (Kd.R_types (Kd.R_types (Kd.R_types (Kd.R_types (HO_403002.out) BK396.out (by decide)) BK402.out (by decide)) BK414.out (by decide)) BK421.out (by decide)) BK447.out (by decide)).1 k_ hs_.symm).1.1.1.1.2) (fun hn_ => (Kd.freshB (g := gb396) (o := .cells #[.int .u64 a0_0, .int .u64 a0_1, .slice A0_2 l0_2.length c0_2] 27 (0, 0)) (pk BK396.out) k_ hn_)), Or.elim hk_ (fun hs_ => ((Kd.R_types (Kd.R_types (Kd.R_types (Kd.R_types (Kd.R_types (HO_403002.out) BK396.out (by decide)) BK402.out (by decide)) BK414.out (by decide)) BK421.out (by decide)) BK447.out (by decide)).1 k_ hs_.symm).1.1.1.2) (fun hn_ => (Kd.freshB (g := gb402) (o := .cells #[.int .u64 t397, .int .u64 t398, .slice Ao12 t399.length co12] 30 (0, 0)) (pk BK402.out) k_ hn_)), Or.elim hk_ (fun hs_ => ((Kd.R_types (Kd.R_types (Kd.R_types (Kd.R_types (Kd.R_types (HO_403002.out) BK396.out (by decide)) BK402.out (by decide)) BK414.out (by decide)) BK421.out (by decide)) BK447.out (by decide)).1 k_ hs_.symm).1.1.2) (fun hn_ => (Kd.freshB (g := gb414) (o := .cells #[.int .u64 t408, .int .u64 t409, .slice Ao67 t410.length co67] 27 (0, 0)) (pk BK414.out) k_ hn_)), Or.elim hk_ (fun hs_ => ((Kd.R_types (Kd.R_types (Kd.R_types (Kd.R_types (Kd.R_types (HO_403002.out) BK396.out (by decide)) BK402.out (by decide)) BK414.out (by decide)) BK421.out (by decide)) BK447.out (by decide)).1 k_ hs_.symm).1.2) (fun hn_ => (Kd.freshB (g := gb421) (o := .cells #[.int .u64 t415, .int .u64 t416, .slice Ao76 t417.length co76] 27 (0, 0)) (pk BK421.out) k_ hn_)), Or.elim hk_ (fun hs_ => ((Kd.R_types (Kd.R_types (Kd.R_types (Kd.R_types (Kd.R_types (HO_403002.out) BK396.out (by decide)) BK402.out (by decide)) BK414.out (by decide)) BK421.out (by decide)) BK447.out (by decide)).1 k_ hs_.symm).2) (fun hn_ => (Kd.freshB (g := gb447) (o := .cells #[.int .u64 t441, .int .u64 t442, .slice Ao135 t443.length co135] 30 (0, 0)) (pk BK447.out) k_ hn_))⟩)) (below_size (pb HB))); have n5_ := Aside0.mk (blk_below (pk BK396.out) hb); have n6_ := Aside0.mk (blk_below (pk BK402.out) hb); have n7_ := Aside0.mk (blk_below (pk BK414.out) hb); have n8_ := Aside0.mk (blk_below (pk BK421.out) hb); have n9_ := Aside0.mk (blk_below (pk BK447.out) hb); have n10_ := Aside0.mk (below_step (pb HB) hb); clear HO_403002; clear HO_415002; clear HO_422002; clear HO445; clear BK396; clear BK402; clear BK414; clear BK421; clear BK447; clear HB; have HO_403002 := n0_; have HO_415002 := n1_; have HO_422002 := n2_; have HO445 := n3_; have HO452 := n4_; have BK396 := n5_; have BK402 := n6_; have BK414 := n7_; have BK421 := n8_; have BK447 := n9_; have HB := n10_; clear n0_ n1_ n2_ n3_ n4_ n5_ n6_ n7_ n8_ n9_ n10_; (try clear hb); (try clear hb2); (try clear hk); (try clear hi); (try clear ho0)) | ((with_reducible refine gate_dst (N := 18) rfl ?_); (try (refine gate_guard (by rfl) ?_; dsimp only)); refine box_event ?hg (N := 18) ?hd (cs := #[.int .u64 0, .int .u64 0, .slice none 0 0]) (t := 30) ?hr ?_; (case hd => rfl); (case hg => rfl); (case hr => first | (go_simp; done) | (go_simp; rfl)); intro gb454 hg w139 hbox hb; have n0_ := Aside0.mk (Kd.R_below (pr HO_403002.out) hb); have n1_ := Aside0.mk (Kd.V_below (Kd.V_elderB (pv HO_415002.out) gb454 (Nat.le_of_eq hg.symm)) hb); have n2_ := Aside0.mk (Kd.V_below (Kd.V_elderB (pv HO_422002.out) gb454 (Nat.le_of_eq hg.symm)) hb); have n3_ := Aside0.mk (Kd.V_below (Kd.V_elderB (pv HO445.out) gb454 (Nat.le_of_eq hg.symm)) hb); have n4_ := Aside0.mk (Kd.V_below (Kd.V_elderB (pv HO452.out) gb454 (Nat.le_of_eq hg.symm)) hb); have n5_ := Aside0.mk (blk_below (pk BK396.out) hb); have n6_ := Aside0.mk (blk_below (pk BK402.out) hb); have n7_ := Aside0.mk (blk_below (pk BK414.out) hb); have n8_ := Aside0.mk (blk_below (pk BK421.out) hb); have n9_ := Aside0.mk (blk_below (pk BK447.out) hb); have n10_ := Aside0.mk (below_step (pb HB) hb); have n11_ := Aside0.mk (hbox); have n12_ := Aside0.mk ((pg hg HB : w.heap.size ≤ gb454)); have n13_ := Aside0.mk ((pg hg HB : w.heap.size ≤ gb454)); have n14_ := Aside0.mk ((pl hg (pk BK396.out) : gb396 ≠ gb454)); have n15_ := Aside0.mk ((pl' hg (pk BK396.out) : gb454 ≠ gb396)); have n16_ := Aside0.mk ((pl hg (pk BK402.out) : gb402 ≠ gb454)); have n17_ := Aside0.mk ((pl' hg (pk BK402.out) : gb454 ≠ gb402)); have n18_ := Aside0.mk ((pl hg (pk BK414.out) : gb414 ≠ gb454)); have n19_ := Aside0.mk ((pl' hg (pk BK414.out) : gb454 ≠ gb414)); have n20_ := Aside0.mk ((pl hg (pk BK421.out) : gb421 ≠ gb454)); have n21_ := Aside0.mk ((pl' hg (pk BK421.out) : gb454 ≠ gb421)); have n22_ := Aside0.mk ((pl hg (pk BK447.out) : gb447 ≠ gb454)); have n23_ := Aside0.mk ((pl' hg (pk BK447.out) : gb454 ≠ gb447)); clear HO_403002; clear HO_415002; clear HO_422002; clear HO445; clear HO452; clear BK396; clear BK402; clear BK414; clear BK421; clear BK447; clear HB; have HO_403002 := n0_; have HO_415002 := n1_; have HO_422002 := n2_; have HO445 := n3_; have HO452 := n4_; have BK396 := n5_; have BK402 := n6_; have BK414 := n7_; have BK421 := n8_; have BK447 := n9_; have HB := n10_; have BK454 := n11_; have GW454 := n12_; have GE454 := n13_; have NB396_454 := n14_; have NB454_396 := n15_; have NB402_454 := n16_; have NB454_402 := n17_; have NB414_454 := n18_; have NB454_414 := n19_; have NB421_454 := n20_; have NB454_421 := n21_; have NB447_454 := n22_; have NB454_447 := n23_; clear n0_ n1_ n2_ n3_ n4_ n5_ n6_ n7_ n8_ n9_ n10_ n11_ n12_ n13_ n14_ n15_ n16_ n17_ n18_ n19_ n20_ n21_ n22_ n23_; clear hb hbox hg; have hnb140 := NB454_396.out; have hnc140 := NB396_454.out; have hnb141 := NB454_402.out; have hnc141 := NB402_454.out; have hnb142 := NB454_414.out; have hnc142 := NB414_454.out; have hnb143 := NB454_421.out; have hnc143 := NB421_454.out; have hnb144 := NB454_447.out; have hnc144 := NB447_454.out; have hcz145_0 := ce BK454 0; have hcz145_1 := ce BK454 1; have hcz145_2 := ce BK454 2; have hfz145_0 := fz BK454 0; have hfz145_1 := fz BK454 1; have hfz145_2 := fz BK454 2; obtain ⟨Ao146, co146, eo146⟩ := Kd.V_slice HO452.out; subst eo146))
             have n0_ : Aside0 (Kd.R k46 46 (((w139.setCell ⟨gb454, 0, none⟩ (.int .u64 t448)).setCell ⟨gb454, 1, none⟩ (.int .u64 t449)).setCell ⟨gb454, 2, none⟩ (.slice Ao146 t450.length co146)) w.heap.size (fun _ => True) (.slice Ao12 t399.length co12) t399) := ⟨by refine pr ?_; exact Kd.R_mono (Kd.R_far (p := ⟨gb454, 2, none⟩) (Kd.R_far (p := ⟨gb454, 1, none⟩) (Kd.R_far (p := ⟨gb454, 0, none⟩) (Kd.R_types HO_403002.out BK454.out (by decide)) (fun _ hk => hk.2) (.int .u64 t448)) (fun _ hk => hk.2) (.int .u64 t449)) (fun _ hk => hk.2) (.slice Ao146 t450.length co146)) (fun _ hk => trivial)⟩
             have n1_ : Aside0 (Kd.V k60 60 (((w139.setCell ⟨gb454, 0, none⟩ (.int .u64 t448)).setCell ⟨gb454, 1, none⟩ (.int .u64 t449)).setCell ⟨gb454, 2, none⟩ (.slice Ao146 t450.length co146)) w.heap.size (fun k_ => some k_ ≠ (.slice Ao12 t399.length co12 : Value).ownBlock ∧ k_ ≠ gb396 ∧ k_ ≠ gb402 ∧ k_ ≠ gb414 ∧ k_ ≠ gb421 ∧ k_ ≠ gb447 ∧ k_ ≠ gb454) (.slice Ao67 t410.length co67) t410) := ⟨by refine pv ?_; exact Kd.V_mono (Kd.V_far (p := ⟨gb454, 2, none⟩) (Kd.V_far (p := ⟨gb454, 1, none⟩) (Kd.V_far (p := ⟨gb454, 0, none⟩) (Kd.V_mono HO_415002.out (fun k_ hk => (⟨hk, hk.2⟩ : _ ∧ k_ ≠ gb454))) (fun _ hk => hk.2) (.int .u64 t448)) (fun _ hk => hk.2) (.int .u64 t449)) (fun _ hk => hk.2) (.slice Ao146 t450.length co146)) (fun _ hk => ⟨hk.1.1.1, ⟨hk.1.1.2.1, ⟨hk.1.1.2.2.1, ⟨hk.1.1.2.2.2.1, ⟨hk.1.1.2.2.2.2.1, ⟨hk.1.1.2.2.2.2.2, hk.1.2⟩⟩⟩⟩⟩⟩)⟩
             have n2_ : Aside0 (Kd.V k60 60 (((w139.setCell ⟨gb454, 0, none⟩ (.int .u64 t448)).setCell ⟨gb454, 1, none⟩ (.int .u64 t449)).setCell ⟨gb454, 2, none⟩ (.slice Ao146 t450.length co146)) w.heap.size (fun k_ => some k_ ≠ (.slice Ao12 t399.length co12 : Value).ownBlock ∧ k_ ≠ gb396 ∧ k_ ≠ gb402 ∧ k_ ≠ gb414 ∧ k_ ≠ gb421 ∧ k_ ≠ gb447 ∧ k_ ≠ gb454) (.slice Ao76 t417.length co76) t417) := ⟨by refine pv ?_; exact Kd.V_mono (Kd.V_far (p := ⟨gb454, 2, none⟩) (Kd.V_far (p := ⟨gb454, 1, none⟩) (Kd.V_far (p := ⟨gb454, 0, none⟩) (Kd.V_mono HO_422002.out (fun k_ hk => (⟨hk, hk.2⟩ : _ ∧ k_ ≠ gb454))) (fun _ hk => hk.2) (.int .u64 t448)) (fun _ hk => hk.2) (.int .u64 t449)) (fun _ hk => hk.2) (.slice Ao146 t450.length co146)) (fun _ hk => ⟨hk.1.1.1, ⟨hk.1.1.2.1, ⟨hk.1.1.2.2.1, ⟨hk.1.1.2.2.2.1, ⟨hk.1.1.2.2.2.2.1, ⟨hk.1.1.2.2.2.2.2, hk.1.2⟩⟩⟩⟩⟩⟩)⟩
             have n3_ : Aside0 (Kd.V k46 46 (((w139.setCell ⟨gb454, 0, none⟩ (.int .u64 t448)).setCell ⟨gb454, 1, none⟩ (.int .u64 t449)).setCell ⟨gb454, 2, none⟩ (.slice Ao146 t450.length co146)) w.heap.size (fun k_ => k_ ≠ gb396 ∧ k_ ≠ gb402 ∧ k_ ≠ gb414 ∧ k_ ≠ gb421 ∧ k_ ≠ gb447 ∧ k_ ≠ gb454) (.slice Ao135 t443.length co135) t443) := ⟨by refine pv ?_; exact Kd.V_mono (Kd.V_far (p := ⟨gb454, 2, none⟩) (Kd.V_far (p := ⟨gb454, 1, none⟩) (Kd.V_far (p := ⟨gb454, 0, none⟩) (Kd.V_mono HO445.out (fun k_ hk => (⟨hk, hk.2⟩ : _ ∧ k_ ≠ gb454))) (fun _ hk => hk.2) (.int .u64 t448)) (fun _ hk => hk.2) (.int .u64 t449)) (fun _ hk => hk.2) (.slice Ao146 t450.length co146)) (fun _ hk => ⟨hk.1.1.1, ⟨hk.1.1.2.1, ⟨hk.1.1.2.2.1, ⟨hk.1.1.2.2.2.1, ⟨hk.1.1.2.2.2.2, hk.1.2⟩⟩⟩⟩⟩)⟩
             have n4_ : Aside0 (Kd.V k46 46 (((w139.setCell ⟨gb454, 0, none⟩ (.int .u64 t448)).setCell ⟨gb454, 1, none⟩ (.int .u64 t449)).setCell ⟨gb454, 2, none⟩ (.slice Ao146 t450.length co146)) w.heap.size (fun k_ => k_ ≠ gb396 ∧ k_ ≠ gb402 ∧ k_ ≠ gb414 ∧ k_ ≠ gb421 ∧ k_ ≠ gb447 ∧ k_ ≠ gb454) (.slice Ao146 t450.length co146) t450) := ⟨by refine pv ?_; exact Kd.V_mono (Kd.V_far (p := ⟨gb454, 2, none⟩) (Kd.V_far (p := ⟨gb454, 1, none⟩) (Kd.V_far (p := ⟨gb454, 0, none⟩) (Kd.V_mono HO452.out (fun k_ hk => (⟨hk, hk.2⟩ : _ ∧ k_ ≠ gb454))) (fun _ hk => hk.2) (.int .u64 t448)) (fun _ hk => hk.2) (.int .u64 t449)) (fun _ hk => hk.2) (.slice Ao146 t450.length co146)) (fun _ hk => ⟨hk.1.1.1, ⟨hk.1.1.2.1, ⟨hk.1.1.2.2.1, ⟨hk.1.1.2.2.2.1, ⟨hk.1.1.2.2.2.2, hk.1.2⟩⟩⟩⟩⟩)⟩
             have n5_ : Aside0 ((((w139.setCell ⟨gb454, 0, none⟩ (.int .u64 t448)).setCell ⟨gb454, 1, none⟩ (.int .u64 t449)).setCell ⟨gb454, 2, none⟩ (.slice Ao146 t450.length co146)).heap[gb396]? = some (.cells #[.int .u64 a0_0, .int .u64 a0_1, .slice A0_2 l0_2.length c0_2] 27 (0, 0))) := ⟨by refine pk ?_; refine blk_far ?_ NB396_454.out _; refine pk ?_; refine blk_far ?_ NB396_454.out _; refine pk ?_; refine blk_far ?_ NB396_454.out _; refine pk ?_; exact BK396.out⟩
             have n6_ : Aside0 ((((w139.setCell ⟨gb454, 0, none⟩ (.int .u64 t448)).setCell ⟨gb454, 1, none⟩ (.int .u64 t449)).setCell ⟨gb454, 2, none⟩ (.slice Ao146 t450.length co146)).heap[gb402]? = some (.cells #[.int .u64 t397, .int .u64 t398, .slice Ao12 t399.length co12] 30 (0, 0))) := ⟨by refine pk ?_; refine blk_far ?_ NB402_454.out _; refine pk ?_; refine blk_far ?_ NB402_454.out _; refine pk ?_; refine blk_far ?_ NB402_454.out _; refine pk ?_; exact BK402.out⟩
             have n7_ : Aside0 ((((w139.setCell ⟨gb454, 0, none⟩ (.int .u64 t448)).setCell ⟨gb454, 1, none⟩ (.int .u64 t449)).setCell ⟨gb454, 2, none⟩ (.slice Ao146 t450.length co146)).heap[gb414]? = some (.cells #[.int .u64 t408, .int .u64 t409, .slice Ao67 t410.length co67] 27 (0, 0))) := ⟨by refine pk ?_; refine blk_far ?_ NB414_454.out _; refine pk ?_; refine blk_far ?_ NB414_454.out _; refine pk ?_; refine blk_far ?_ NB414_454.out _; refine pk ?_; exact BK414.out⟩
             have n8_ : Aside0 ((((w139.setCell ⟨gb454, 0, none⟩ (.int .u64 t448)).setCell ⟨gb454, 1, none⟩ (.int .u64 t449)).setCell ⟨gb454, 2, none⟩ (.slice Ao146 t450.length co146)).heap[gb421]? = some (.cells #[.int .u64 t415, .int .u64 t416, .slice Ao76 t417.length co76] 27 (0, 0))) := ⟨by refine pk ?_; refine blk_far ?_ NB421_454.out _; refine pk ?_; refine blk_far ?_ NB421_454.out _; refine pk ?_; refine blk_far ?_ NB421_454.out _; refine pk ?_; exact BK421.out⟩
             have n9_ : Aside0 ((((w139.setCell ⟨gb454, 0, none⟩ (.int .u64 t448)).setCell ⟨gb454, 1, none⟩ (.int .u64 t449)).setCell ⟨gb454, 2, none⟩ (.slice Ao146 t450.length co146)).heap[gb447]? = some (.cells #[.int .u64 t441, .int .u64 t442, .slice Ao135 t443.length co135] 30 (0, 0))) := ⟨by refine pk ?_; refine blk_far ?_ NB447_454.out _; refine pk ?_; refine blk_far ?_ NB447_454.out _; refine pk ?_; refine blk_far ?_ NB447_454.out _; refine pk ?_; exact BK447.out⟩
             have n10_ : Aside0 ((((w139.setCell ⟨gb454, 0, none⟩ (.int .u64 t448)).setCell ⟨gb454, 1, none⟩ (.int .u64 t449)).setCell ⟨gb454, 2, none⟩ (.slice Ao146 t450.length co146)).heap[gb454]? = some (.cells #[.int .u64 t448, .int .u64 t449, .slice Ao146 t450.length co146] 30 (0, 0))) := ⟨by refine pk ?_; refine blk_put (cs := #[.int .u64 t448, .int .u64 t449, .slice none 0 0]) ?_ 2 _ rfl; refine pk ?_; refine blk_put (cs := #[.int .u64 t448, .int .u64 0, .slice none 0 0]) ?_ 1 _ rfl; refine pk ?_; refine blk_put (cs := #[.int .u64 0, .int .u64 0, .slice none 0 0]) ?_ 0 _ rfl; refine pk ?_; exact BK454.out⟩
             have n11_ : Aside0 (Below w.heap.size w (((w139.setCell ⟨gb454, 0, none⟩ (.int .u64 t448)).setCell ⟨gb454, 1, none⟩ (.int .u64 t449)).setCell ⟨gb454, 2, none⟩ (.slice Ao146 t450.length co146))) := ⟨pb HB⟩
             (try clear HO_403002)
             (try clear HO_415002)
             (try clear HO_422002)
             (try clear HO445)
             (try clear HO452)
             (try clear BK396)
             (try clear BK402)
             (try clear BK414)
             (try clear BK421)
             (try clear BK447)
             (try clear BK454)
             (try clear HB)
             generalize (((w139.setCell ⟨gb454, 0, none⟩ (.int .u64 t448)).setCell ⟨gb454, 1, none⟩ (.int .u64 t449)).setCell ⟨gb454, 2, none⟩ (.slice Ao146 t450.length co146)) = w147 at n0_ n1_ n2_ n3_ n4_ n5_ n6_ n7_ n8_ n9_ n10_ n11_ ⊢
             have HO_403002 := n0_
             have HO_415002 := n1_
             have HO_422002 := n2_
             have HO445 := n3_
             have HO452 := n4_
             have BK396 := n5_
             have BK402 := n6_
             have BK414 := n7_
             have BK421 := n8_
             have BK447 := n9_
             have BK454 := n10_
             have HB := n11_
             clear n0_ n1_ n2_ n3_ n4_ n5_ n6_ n7_ n8_ n9_ n10_ n11_
             replace HO_403002 := Aside0.mk (Kd.R_drew HO_403002.out)
             replace HO_415002 := Aside0.mk (Kd.V_drew HO_415002.out)
             replace HO_422002 := Aside0.mk (Kd.V_drew HO_422002.out)
             replace HO445 := Aside0.mk (Kd.V_drew HO445.out)
             replace HO452 := Aside0.mk (Kd.V_drew HO452.out)
             replace BK396 := Aside0.mk (blk_drew BK396.out)
             replace BK402 := Aside0.mk (blk_drew BK402.out)
             replace BK414 := Aside0.mk (blk_drew BK414.out)
             replace BK421 := Aside0.mk (blk_drew BK421.out)
             replace BK447 := Aside0.mk (blk_drew BK447.out)
             replace BK454 := Aside0.mk (blk_drew BK454.out)
             replace HB := Aside0.mk (below_drew1 HB.out)
             refine start_ (n := 24) (S := fun w' => w'.cell? ⟨gb414, 0, none⟩ = some (.int .u64 t408) ∧ w'.cell? ⟨gb414, 1, none⟩ = some (.int .u64 t409) ∧ w'.cell? ⟨gb414, 2, none⟩ = some (.slice Ao67 t410.length co67) ∧ w'.cell? ⟨gb447, 0, none⟩ = some (.int .u64 t441) ∧ w'.cell? ⟨gb447, 1, none⟩ = some (.int .u64 t442) ∧ w'.cell? ⟨gb447, 2, none⟩ = some (.slice Ao135 t443.length co135) ∧ w'.cell? ⟨gb421, 0, none⟩ = some (.int .u64 t415) ∧ w'.cell? ⟨gb421, 1, none⟩ = some (.int .u64 t416) ∧ w'.cell? ⟨gb421, 2, none⟩ = some (.slice Ao76 t417.length co76) ∧ w'.cell? ⟨gb454, 0, none⟩ = some (.int .u64 t448) ∧ w'.cell? ⟨gb454, 1, none⟩ = some (.int .u64 t449) ∧ w'.cell? ⟨gb454, 2, none⟩ = some (.slice Ao146 t450.length co146)) (ds := []) #[false, false, false, false, false, false, false, false, false, false, false, false, false, false, false, false, false, false, false, false, false, false, false, false] (by kernel_rfl) rfl rfl ⟨ce BK414 0, ce BK414 1, ce BK414 2, ce BK447 0, ce BK447 1, ce BK447 2, ce BK421 0, ce BK421 1, ce BK421 2, ce BK454 0, ce BK454 1, ce BK454 2⟩ (fun hHeld => ?_); refine with_tabW samphirelaw12_IndexTells.tab17 samphirelaw12_IndexTells.bits17 (fun HT_ HW_ => ?_)
             generalize w147.drew = w148 at HO_403002 HO_415002 HO_422002 HO445 HO452 BK396 BK402 BK414 BK421 BK447 BK454 HB hHeld ⊢
             refine ta 0 hHeld ?_
             refine ta 2 hHeld ?_
             refine on1 1 (fun K hK => ?_)
             refine gs Try.func8 #[.agg #[.int .u64 t408, .int .u64 t409, .slice Ao67 t410.length co67]] ?_
             with_reducible refine (samphirelaw12_Ref.calls kj54 t408 t409 _ _ t410 t455 t456 t457 _ ?side1 ?side2 A115.out).mono ?_
             (case side1 => repeat (first | exact (Kd.V_reads' HO_415002.out).2.2 | (with_reducible refine Kd.C_alloc ?_ _) | (with_reducible refine Kd.C_drewN ?_ _) | (with_reducible refine Kd.C_drew ?_)))
             (case side2 => exact (Kd.V_reads' HO_415002.out).2.1)
             rintro e w149 ⟨v458, rfl, ho0, hb⟩
             refine ⟨_, rfl, ?_⟩
             have n0_ := Aside0.mk (Kd.R_elder' (pr HO_403002.out) (Kd.R_base ho0) hb)
             have n1_ := Aside0.mk (Kd.V_elder' (pv HO_415002.out) (Kd.R_base ho0) hb)
             have n2_ := Aside0.mk (Kd.V_elder' (pv HO_422002.out) (Kd.R_base ho0) hb)
             have n3_ := Aside0.mk (Kd.V_elder' (pv HO445.out) (Kd.R_base ho0) hb)
             have n4_ := Aside0.mk (Kd.V_elder' (pv HO452.out) (Kd.R_base ho0) hb)
             have n5_ := Aside0.mk (Kd.R_lower (Kd.R_new' ho0 (Kd.R_lt (pr HO_403002.out))) (below_size (pb HB)))
             have n6_ := Aside0.mk (blk_below (pk BK396.out) hb)
             have n7_ := Aside0.mk (blk_below (pk BK402.out) hb)
             have n8_ := Aside0.mk (blk_below (pk BK414.out) hb)
             have n9_ := Aside0.mk (blk_below (pk BK421.out) hb)
             have n10_ := Aside0.mk (blk_below (pk BK447.out) hb)
             have n11_ := Aside0.mk (blk_below (pk BK454.out) hb)
             have n12_ := Aside0.mk (below_step (pb HB) hb)
             clear HO_403002 HO_415002 HO_422002 HO445 HO452 BK396 BK402 BK414 BK421 BK447 BK454 HB
             have HO_403002 := n0_
             have HO_415002 := n1_
             have HO_422002 := n2_
             have HO445 := n3_
             have HO452 := n4_
             have HO459 := n5_
             have BK396 := n6_
             have BK402 := n7_
             have BK414 := n8_
             have BK421 := n9_
             have BK447 := n10_
             have BK454 := n11_
             have HB := n12_
             clear n0_ n1_ n2_ n3_ n4_ n5_ n6_ n7_ n8_ n9_ n10_ n11_ n12_
             (try clear hb)
             (try clear hb2)
             (try clear hk)
             (try clear hi)
             (try clear ho0)
             obtain ⟨Ao150, co150, eo150⟩ := Kd.R_slice HO459.out
             (first | subst eo150 | (injection eo150 with f1_ f2_ f3_; have f4_ := f1_.symm; have f5_ := f3_.symm; clear f1_ f2_ f3_; subst f4_; subst f5_))
             refine hK.out _ _ ⟨ce BK414 0, ce BK414 1, ce BK414 2, ce BK447 0, ce BK447 1, ce BK447 2, ce BK421 0, ce BK421 1, ce BK421 2, ce BK454 0, ce BK454 1, ce BK454 2⟩ (fun hHeld => ?_)
             clear hK K
             refine nm ?_
             refine on1 3 (fun K hK => ?_)
             refine gs Try.func17 #[.agg #[.int .u64 t455, .int .u64 t456, .slice Ao150 t457.length co150], .agg #[.int .u64 t441, .int .u64 t442, .slice Ao135 t443.length co135]] ?_
             with_reducible refine (samphireref12_Same.calls kj54 t455 t456 _ _ t457 t441 t442 _ _ t443 true _ ?side1 ?side2 ?side3 ?side4 A116.out).mono ?_
             (case side1 => repeat (first | exact (Kd.R_reads' HO459.out).2.2 | (with_reducible refine Kd.C_alloc ?_ _) | (with_reducible refine Kd.C_drewN ?_ _) | (with_reducible refine Kd.C_drew ?_)))
             (case side2 => exact (Kd.R_reads' HO459.out).2.1)
             (case side3 => repeat (first | exact (Kd.V_reads' HO445.out).2.2 | (with_reducible refine Kd.C_alloc ?_ _) | (with_reducible refine Kd.C_drewN ?_ _) | (with_reducible refine Kd.C_drew ?_)))
             (case side4 => exact (Kd.V_reads' HO445.out).2.1)
             rintro e w151 ⟨rfl, hb⟩
             refine ⟨_, rfl, ?_⟩
             replace HO_403002 := Aside0.mk (Kd.R_below (pr HO_403002.out) hb)
             replace HO_415002 := Aside0.mk (Kd.V_below (pv HO_415002.out) hb)
             replace HO_422002 := Aside0.mk (Kd.V_below (pv HO_422002.out) hb)
             replace HO445 := Aside0.mk (Kd.V_below (pv HO445.out) hb)
             replace HO452 := Aside0.mk (Kd.V_below (pv HO452.out) hb)
             replace HO459 := Aside0.mk (Kd.R_below (pr HO459.out) hb)
             replace BK396 := Aside0.mk (blk_below (pk BK396.out) hb)
             replace BK402 := Aside0.mk (blk_below (pk BK402.out) hb)
             replace BK414 := Aside0.mk (blk_below (pk BK414.out) hb)
             replace BK421 := Aside0.mk (blk_below (pk BK421.out) hb)
             replace BK447 := Aside0.mk (blk_below (pk BK447.out) hb)
             replace BK454 := Aside0.mk (blk_below (pk BK454.out) hb)
             replace HB := Aside0.mk (below_step (pb HB) hb)
             (try clear hb)
             (try clear hb2)
             (try clear hk)
             (try clear hi)
             refine hK.out _ _ ⟨ce BK414 0, ce BK414 1, ce BK414 2, ce BK447 0, ce BK447 1, ce BK447 2, ce BK421 0, ce BK421 1, ce BK421 2, ce BK454 0, ce BK454 1, ce BK454 2⟩ (fun hHeld => ?_)
             clear hK K
             refine nm ?_
             refine pu 4 ?_
             refine pu 5 ?_
             refine pu 6 ?_
             refine pu 7 ?_
             refine pu 8 ?_
             refine pu 9 ?_
             refine ta 10 hHeld ?_
             refine ta 12 hHeld ?_
             refine on1 11 (fun K hK => ?_)
             refine gs Try.func8 #[.agg #[.int .u64 t415, .int .u64 t416, .slice Ao76 t417.length co76]] ?_
             with_reducible refine (samphirelaw12_Ref.calls kj54 t415 t416 _ _ t417 t461 t462 t463 _ ?side1 ?side2 A119.out).mono ?_
             (case side1 => repeat (first | exact (Kd.V_reads' HO_422002.out).2.2 | (with_reducible refine Kd.C_alloc ?_ _) | (with_reducible refine Kd.C_drewN ?_ _) | (with_reducible refine Kd.C_drew ?_)))
             (case side2 => exact (Kd.V_reads' HO_422002.out).2.1)
             rintro e w152 ⟨v464, rfl, ho0, hb⟩
             refine ⟨_, rfl, ?_⟩
             have n0_ := Aside0.mk (Kd.R_elder' (pr HO_403002.out) (Kd.R_base ho0) hb)
             have n1_ := Aside0.mk (Kd.V_elder' (pv HO_415002.out) (Kd.R_base ho0) hb)
             have n2_ := Aside0.mk (Kd.V_elder' (pv HO_422002.out) (Kd.R_base ho0) hb)
             have n3_ := Aside0.mk (Kd.V_elder' (pv HO445.out) (Kd.R_base ho0) hb)
             have n4_ := Aside0.mk (Kd.V_elder' (pv HO452.out) (Kd.R_base ho0) hb)
             have n5_ := Aside0.mk (Kd.R_elder' (pr HO459.out) (Kd.R_base ho0) hb)
             have n6_ := Aside0.mk (Kd.R_lower (Kd.R_new' (Kd.R_new' ho0 (Kd.R_lt (pr HO_403002.out))) (Kd.R_lt (pr HO459.out))) (below_size (pb HB)))
             have n7_ := Aside0.mk (blk_below (pk BK396.out) hb)
             have n8_ := Aside0.mk (blk_below (pk BK402.out) hb)
             have n9_ := Aside0.mk (blk_below (pk BK414.out) hb)
             have n10_ := Aside0.mk (blk_below (pk BK421.out) hb)
             have n11_ := Aside0.mk (blk_below (pk BK447.out) hb)
             have n12_ := Aside0.mk (blk_below (pk BK454.out) hb)
             have n13_ := Aside0.mk (below_step (pb HB) hb)
             clear HO_403002 HO_415002 HO_422002 HO445 HO452 HO459 BK396 BK402 BK414 BK421 BK447 BK454 HB
             have HO_403002 := n0_
             have HO_415002 := n1_
             have HO_422002 := n2_
             have HO445 := n3_
             have HO452 := n4_
             have HO459 := n5_
             have HO465 := n6_
             have BK396 := n7_
             have BK402 := n8_
             have BK414 := n9_
             have BK421 := n10_
             have BK447 := n11_
             have BK454 := n12_
             have HB := n13_
             clear n0_ n1_ n2_ n3_ n4_ n5_ n6_ n7_ n8_ n9_ n10_ n11_ n12_ n13_
             (try clear hb)
             (try clear hb2)
             (try clear hk)
             (try clear hi)
             (try clear ho0)
             obtain ⟨Ao153, co153, eo153⟩ := Kd.R_slice HO465.out
             (first | subst eo153 | (injection eo153 with f1_ f2_ f3_; have f4_ := f1_.symm; have f5_ := f3_.symm; clear f1_ f2_ f3_; subst f4_; subst f5_))
             refine hK.out _ _ ⟨ce BK414 0, ce BK414 1, ce BK414 2, ce BK447 0, ce BK447 1, ce BK447 2, ce BK421 0, ce BK421 1, ce BK421 2, ce BK454 0, ce BK454 1, ce BK454 2⟩ (fun hHeld => ?_)
             clear hK K
             refine nm ?_
             refine on1 13 (fun K hK => ?_)
             refine gs Try.func17 #[.agg #[.int .u64 t461, .int .u64 t462, .slice Ao153 t463.length co153], .agg #[.int .u64 t448, .int .u64 t449, .slice Ao146 t450.length co146]] ?_
             with_reducible refine (samphireref12_Same.calls kj54 t461 t462 _ _ t463 t448 t449 _ _ t450 true _ ?side1 ?side2 ?side3 ?side4 A120.out).mono ?_
             (case side1 => repeat (first | exact (Kd.R_reads' HO465.out).2.2 | (with_reducible refine Kd.C_alloc ?_ _) | (with_reducible refine Kd.C_drewN ?_ _) | (with_reducible refine Kd.C_drew ?_)))
             (case side2 => exact (Kd.R_reads' HO465.out).2.1)
             (case side3 => repeat (first | exact (Kd.V_reads' HO452.out).2.2 | (with_reducible refine Kd.C_alloc ?_ _) | (with_reducible refine Kd.C_drewN ?_ _) | (with_reducible refine Kd.C_drew ?_)))
             (case side4 => exact (Kd.V_reads' HO452.out).2.1)
             rintro e w154 ⟨rfl, hb⟩
             refine ⟨_, rfl, ?_⟩
             replace HO_403002 := Aside0.mk (Kd.R_below (pr HO_403002.out) hb)
             replace HO_415002 := Aside0.mk (Kd.V_below (pv HO_415002.out) hb)
             replace HO_422002 := Aside0.mk (Kd.V_below (pv HO_422002.out) hb)
             replace HO445 := Aside0.mk (Kd.V_below (pv HO445.out) hb)
             replace HO452 := Aside0.mk (Kd.V_below (pv HO452.out) hb)
             replace HO459 := Aside0.mk (Kd.R_below (pr HO459.out) hb)
             replace HO465 := Aside0.mk (Kd.R_below (pr HO465.out) hb)
             replace BK396 := Aside0.mk (blk_below (pk BK396.out) hb)
             replace BK402 := Aside0.mk (blk_below (pk BK402.out) hb)
             replace BK414 := Aside0.mk (blk_below (pk BK414.out) hb)
             replace BK421 := Aside0.mk (blk_below (pk BK421.out) hb)
             replace BK447 := Aside0.mk (blk_below (pk BK447.out) hb)
             replace BK454 := Aside0.mk (blk_below (pk BK454.out) hb)
             replace HB := Aside0.mk (below_step (pb HB) hb)
             (try clear hb)
             (try clear hb2)
             (try clear hk)
             (try clear hi)
             refine hK.out _ _ ⟨ce BK414 0, ce BK414 1, ce BK414 2, ce BK447 0, ce BK447 1, ce BK447 2, ce BK421 0, ce BK421 1, ce BK421 2, ce BK454 0, ce BK454 1, ce BK454 2⟩ (fun hHeld => ?_)
             clear hK K
             refine nm ?_
             refine pu 14 ?_
             refine pu 15 ?_
             refine pu 16 ?_
             refine pu 17 ?_
             refine pu 18 ?_
             refine pu 19 ?_
             refine pu 20 ?_
             refine on1 21 (fun K hK => ?_)
             refine gs Try.func10 #[] ?_
             with_reducible refine (samphirelaw12_awake.calls kj54  t467 hrT _ A123.out).mono ?_
             rintro e w155 ⟨rfl, hb⟩
             refine ⟨_, rfl, ?_⟩
             replace HO_403002 := Aside0.mk (Kd.R_below (pr HO_403002.out) hb)
             replace HO_415002 := Aside0.mk (Kd.V_below (pv HO_415002.out) hb)
             replace HO_422002 := Aside0.mk (Kd.V_below (pv HO_422002.out) hb)
             replace HO445 := Aside0.mk (Kd.V_below (pv HO445.out) hb)
             replace HO452 := Aside0.mk (Kd.V_below (pv HO452.out) hb)
             replace HO459 := Aside0.mk (Kd.R_below (pr HO459.out) hb)
             replace HO465 := Aside0.mk (Kd.R_below (pr HO465.out) hb)
             replace BK396 := Aside0.mk (blk_below (pk BK396.out) hb)
             replace BK402 := Aside0.mk (blk_below (pk BK402.out) hb)
             replace BK414 := Aside0.mk (blk_below (pk BK414.out) hb)
             replace BK421 := Aside0.mk (blk_below (pk BK421.out) hb)
             replace BK447 := Aside0.mk (blk_below (pk BK447.out) hb)
             replace BK454 := Aside0.mk (blk_below (pk BK454.out) hb)
             replace HB := Aside0.mk (below_step (pb HB) hb)
             (try clear hb)
             (try clear hb2)
             (try clear hk)
             (try clear hi)
             refine hK.out _ _ ⟨ce BK414 0, ce BK414 1, ce BK414 2, ce BK447 0, ce BK447 1, ce BK447 2, ce BK421 0, ce BK421 1, ce BK421 2, ce BK454 0, ce BK454 1, ce BK454 2⟩ (fun hHeld => ?_)
             clear hK K
             refine nm ?_
             refine pu 22 ?_
             refine pu 23 ?_
             refine done_ (done_of HT_.out (by kernel_rfl)) ?_
             try go_wp2
             go_ret
             exact ⟨by first | rfl | (simp [errW_none, errW_some] <;> rfl) | (simp [*, errW_none, errW_some] <;> rfl), pb HB⟩
            ·rw [if_neg c122] at H
             exact Bool.noConfusion ((Option.some.inj H).trans hrT.out)
           ·replace c121 := Bool.eq_false_iff.mpr c121
            subst c121
            have H1 : (some false) = some r := by rw [if_neg (show ¬ (false = true) by decide)] at H; exact H
            exact Bool.noConfusion ((Option.some.inj H1).trans hrT.out)
          ·rw [if_neg c118] at H
           exact Bool.noConfusion ((Option.some.inj H).trans hrT.out)
         ·replace c117 := Bool.eq_false_iff.mpr c117
          subst c117
          have H1 : (some false) = some r := by rw [if_neg (show ¬ (false = true) by decide)] at H; exact H
          exact Bool.noConfusion ((Option.some.inj H1).trans hrT.out)
     ·replace c53 := Bool.eq_false_iff.mpr c53
      subst c53
      have H1 : ((index_Many.f kj4 a0_0 a0_1 l0_2).bind fun t423 => (if t423 = 0 then (if t406 = 0 then (if t407 = true then (some false) else (if t413 = 1 then (if t420 = 1 then ((samphirelaw12_Ref.f kj4 t408 t409 t410).bind fun bt424 => ((samphireref12_Same.f kj4 bt424.1 bt424.2.1 bt424.2.2 t397 t398 t399).bind fun t429 => (if t429 = true then ((samphirelaw12_Ref.f kj4 t415 t416 t417).bind fun bt430 => ((samphireref12_Same.f kj4 bt430.1 bt430.2.1 bt430.2.2 t397 t398 t399).bind fun t435 => (if t435 = true then ((samphirelaw12_awake.f kj4).bind fun t436 => (some t436)) else (some false)))) else (some false)))) else (some false)) else (some false))) else (some false)) else (some false))) = some r := by rw [if_neg (show ¬ (false = true) by decide)] at H; exact H
      clear H
      have H := H1
      clear H1
      replace H := Option.bind_eq_some_iff.mp H
      obtain ⟨t423, A2740, H⟩ := H
      replace H : (if t423 = 0 then (if t406 = 0 then (if t407 = true then (some false) else (if t413 = 1 then (if t420 = 1 then ((samphirelaw12_Ref.f kj4 t408 t409 t410).bind fun bt424 => ((samphireref12_Same.f kj4 bt424.1 bt424.2.1 bt424.2.2 t397 t398 t399).bind fun t429 => (if t429 = true then ((samphirelaw12_Ref.f kj4 t415 t416 t417).bind fun bt430 => ((samphireref12_Same.f kj4 bt430.1 bt430.2.1 bt430.2.2 t397 t398 t399).bind fun t435 => (if t435 = true then ((samphirelaw12_awake.f kj4).bind fun t436 => (some t436)) else (some false)))) else (some false)))) else (some false)) else (some false))) else (some false)) else (some false)) = some r := H
      have A274 := Aside0.mk A2740
      clear A2740
      by_cases c275 : t423 = 0
      ·rw [if_pos c275] at H
       have c275b0 : (t423 == 0) = true := beq_iff_eq.mpr c275
       have c275b1 : (t423 != 0) = false := bne_eq_false_iff_eq.mpr c275
       clear c275
       by_cases c276 : t406 = 0
       ·rw [if_pos c276] at H
        have c276b0 : (t406 == 0) = true := beq_iff_eq.mpr c276
        have c276b1 : (t406 != 0) = false := bne_eq_false_iff_eq.mpr c276
        clear c276
        by_cases c277 : t407 = true
        ·subst c277
         have H1 : (some false) = some r := by rw [if_pos rfl] at H; exact H
         exact Bool.noConfusion ((Option.some.inj H1).trans hrT.out)
        ·replace c277 := Bool.eq_false_iff.mpr c277
         subst c277
         have H1 : (if t413 = 1 then (if t420 = 1 then ((samphirelaw12_Ref.f kj4 t408 t409 t410).bind fun bt424 => ((samphireref12_Same.f kj4 bt424.1 bt424.2.1 bt424.2.2 t397 t398 t399).bind fun t429 => (if t429 = true then ((samphirelaw12_Ref.f kj4 t415 t416 t417).bind fun bt430 => ((samphireref12_Same.f kj4 bt430.1 bt430.2.1 bt430.2.2 t397 t398 t399).bind fun t435 => (if t435 = true then ((samphirelaw12_awake.f kj4).bind fun t436 => (some t436)) else (some false)))) else (some false)))) else (some false)) else (some false)) = some r := by rw [if_neg (show ¬ (false = true) by decide)] at H; exact H
         clear H
         have H := H1
         clear H1
         by_cases c303 : t413 = 1
         ·rw [if_pos c303] at H
          have c303b0 : (t413 == 1) = true := beq_iff_eq.mpr c303
          have c303b1 : (t413 != 1) = false := bne_eq_false_iff_eq.mpr c303
          clear c303
          by_cases c304 : t420 = 1
          ·rw [if_pos c304] at H
           have c304b0 : (t420 == 1) = true := beq_iff_eq.mpr c304
           have c304b1 : (t420 != 1) = false := bne_eq_false_iff_eq.mpr c304
           clear c304
           replace H := Option.bind_eq_some_iff.mp H
           obtain ⟨⟨t424, t425, t426⟩, A3050, H⟩ := H
           replace H : ((samphireref12_Same.f kj4 t424 t425 t426 t397 t398 t399).bind fun t429 => (if t429 = true then ((samphirelaw12_Ref.f kj4 t415 t416 t417).bind fun bt430 => ((samphireref12_Same.f kj4 bt430.1 bt430.2.1 bt430.2.2 t397 t398 t399).bind fun t435 => (if t435 = true then ((samphirelaw12_awake.f kj4).bind fun t436 => (some t436)) else (some false)))) else (some false))) = some r := H
           have A305 := Aside0.mk A3050
           clear A3050
           replace H := Option.bind_eq_some_iff.mp H
           obtain ⟨t429, A3060, H⟩ := H
           replace H : (if t429 = true then ((samphirelaw12_Ref.f kj4 t415 t416 t417).bind fun bt430 => ((samphireref12_Same.f kj4 bt430.1 bt430.2.1 bt430.2.2 t397 t398 t399).bind fun t435 => (if t435 = true then ((samphirelaw12_awake.f kj4).bind fun t436 => (some t436)) else (some false)))) else (some false)) = some r := H
           have A306 := Aside0.mk A3060
           clear A3060
           by_cases c307 : t429 = true
           ·subst c307
            have H1 : ((samphirelaw12_Ref.f kj4 t415 t416 t417).bind fun bt430 => ((samphireref12_Same.f kj4 bt430.1 bt430.2.1 bt430.2.2 t397 t398 t399).bind fun t435 => (if t435 = true then ((samphirelaw12_awake.f kj4).bind fun t436 => (some t436)) else (some false)))) = some r := by rw [if_pos rfl] at H; exact H
            clear H
            have H := H1
            clear H1
            replace H := Option.bind_eq_some_iff.mp H
            obtain ⟨⟨t430, t431, t432⟩, A3080, H⟩ := H
            replace H : ((samphireref12_Same.f kj4 t430 t431 t432 t397 t398 t399).bind fun t435 => (if t435 = true then ((samphirelaw12_awake.f kj4).bind fun t436 => (some t436)) else (some false))) = some r := H
            have A308 := Aside0.mk A3080
            clear A3080
            replace H := Option.bind_eq_some_iff.mp H
            obtain ⟨t435, A3090, H⟩ := H
            replace H : (if t435 = true then ((samphirelaw12_awake.f kj4).bind fun t436 => (some t436)) else (some false)) = some r := H
            have A309 := Aside0.mk A3090
            clear A3090
            by_cases c310 : t435 = true
            ·subst c310
             have H1 : ((samphirelaw12_awake.f kj4).bind fun t436 => (some t436)) = some r := by rw [if_pos rfl] at H; exact H
             clear H
             have H := H1
             clear H1
             replace H := Option.bind_eq_some_iff.mp H
             obtain ⟨t436, A3110, H⟩ := H
             replace H : (some t436) = some r := H
             have A311 := Aside0.mk A3110
             clear A3110
             obtain rfl := Option.some.inj H
             have hnb312 := NB402_396.out
             have hnc312 := NB396_402.out
             have hcz313_0 := ce BK402 0
             have hcz313_1 := ce BK402 1
             have hcz313_2 := ce BK402 2
             have hfz313_0 := fz BK402 0
             have hfz313_1 := fz BK402 1
             have hfz313_2 := fz BK402 2
             try go_wp2_with (first | ((with_reducible refine gate_callee (f := 11) rfl ?_); refine gl (some 32) Try.func11 #[.agg #[.int .u64 t397, .int .u64 t398, .slice Ao12 t399.length co12]] ?_; (with_reducible refine (samphireref12_Right.calls kj4 t397 t398 _ _ t399 false _ ?side1 ?side2 A24.out).mono ?_); (case side1 => repeat (first | exact (Kd.R_reads' HO_403002.out).2.2 | (with_reducible refine Kd.C_alloc ?_ _) | (with_reducible refine Kd.C_drewN ?_ _) | (with_reducible refine Kd.C_drew ?_))); (case side2 => exact (Kd.R_reads' HO_403002.out).2.1); rintro e w314 ⟨rfl, hb⟩; refine ⟨_, rfl, ?_⟩; replace HO_403002 := Aside0.mk (Kd.R_below (pr HO_403002.out) hb); replace BK396 := Aside0.mk (blk_below (pk BK396.out) hb); replace BK402 := Aside0.mk (blk_below (pk BK402.out) hb); replace HB := Aside0.mk (below_step (pb HB) hb); (try clear hb); (try clear hb2); (try clear hk); (try clear hi); have hcz315_0 := ce BK396 0; have hcz315_1 := ce BK396 1; have hcz315_2 := ce BK396 2; have hfz315_0 := fz BK396 0; have hfz315_1 := fz BK396 1; have hfz315_2 := fz BK396 2) | ((with_reducible refine gate_callee (f := 12) rfl ?_); refine gl (some 36) Try.func12 #[.agg #[.int .u64 a0_0, .int .u64 a0_1, .slice A0_2 l0_2.length c0_2], .string a1] ?_; (with_reducible refine (index_Get.calls kj4 a0_0 a0_1 _ _ l0_2 a1 t406 false _ ?side1 ?side2 A25.out).mono ?_); (case side1 => repeat (first | exact (Kd.C_below HR0_2.out HB.out) | (with_reducible refine Kd.C_alloc ?_ _) | (with_reducible refine Kd.C_drewN ?_ _) | (with_reducible refine Kd.C_drew ?_))); (case side2 => exact HC0_2.out); rintro e w316 ⟨rfl, hb⟩; refine ⟨_, rfl, ?_⟩; replace HO_403002 := Aside0.mk (Kd.R_below (pr HO_403002.out) hb); replace BK396 := Aside0.mk (blk_below (pk BK396.out) hb); replace BK402 := Aside0.mk (blk_below (pk BK402.out) hb); replace HB := Aside0.mk (below_step (pb HB) hb); (try clear hb); (try clear hb2); (try clear hk); (try clear hi); have hcz317_0 := ce BK396 0; have hcz317_1 := ce BK396 1; have hcz317_2 := ce BK396 2; have hfz317_0 := fz BK396 0; have hfz317_1 := fz BK396 1; have hfz317_2 := fz BK396 2) | ((with_reducible refine gate_callee (f := 13) rfl ?_); refine gl (some 43) Try.func13 #[.agg #[.int .u64 a0_0, .int .u64 a0_1, .slice A0_2 l0_2.length c0_2], .string a1, .int .i64 a2] ?_; (with_reducible refine (index_Put.calls kj4 a0_0 a0_1 (fun k_ => k_ < w.heap.size) _ _ l0_2 a1 a2 t408 t409 t410 t413 _ ?side1 A26.out).mono ?_); (case side1 => exact Kd.V_mk HC0_2.out (Kd.F_below (Kd.C_F k60_heap HR0_2.out) (pb HB))); rintro e w318 ⟨v411, rfl, ho0, hb⟩; refine ⟨_, rfl, ?_⟩; have n0_ := Aside0.mk (Kd.R_below (pr HO_403002.out) hb); have n1_ := Aside0.mk (Kd.V_lower (Kd.V_mono (ok' := fun k_ => some k_ ≠ (.slice Ao12 t399.length co12 : Value).ownBlock ∧ k_ ≠ gb396 ∧ k_ ≠ gb402) ho0 (fun k_ hk_ => ⟨Or.elim hk_ (fun hs_ => fun e_ => Nat.not_le.2 hs_ (Kd.R_base HO_403002.out k_ e_.symm)) (fun hn_ => (Kd.fresh' (Kd.R_lt (pr HO_403002.out)) k_ hn_)), Or.elim hk_ (fun hs_ => fun e_ => Nat.not_le.2 hs_ (by rw [e_]; exact GW396.out)) (fun hn_ => (Kd.freshB (g := gb396) (o := .cells #[.int .u64 a0_0, .int .u64 a0_1, .slice A0_2 l0_2.length c0_2] 27 (0, 0)) (pk BK396.out) k_ hn_)), Or.elim hk_ (fun hs_ => fun e_ => Nat.not_le.2 hs_ (by rw [e_]; exact GW402.out)) (fun hn_ => (Kd.freshB (g := gb402) (o := .cells #[.int .u64 t397, .int .u64 t398, .slice Ao12 t399.length co12] 30 (0, 0)) (pk BK402.out) k_ hn_))⟩)) (below_size (pb HB))); have n2_ := Aside0.mk (blk_below (pk BK396.out) hb); have n3_ := Aside0.mk (blk_below (pk BK402.out) hb); have n4_ := Aside0.mk (below_step (pb HB) hb); clear HO_403002; clear BK396; clear BK402; clear HB; have HO_403002 := n0_; have HO412 := n1_; have BK396 := n2_; have BK402 := n3_; have HB := n4_; clear n0_ n1_ n2_ n3_ n4_; (try clear hb); (try clear hb2); (try clear hk); (try clear hi); (try clear ho0)) | ((with_reducible refine gate_dst (N := 11) rfl ?_); (try (refine gate_guard (by rfl) ?_; dsimp only)); refine box_event ?hg (N := 11) ?hd (cs := #[.int .u64 0, .int .u64 0, .slice none 0 0]) (t := 27) ?hr ?_; (case hd => rfl); (case hg => rfl); (case hr => first | (go_simp; done) | (go_simp; rfl)); intro gb414 hg w319 hbox hb; have n0_ := Aside0.mk (Kd.R_below (pr HO_403002.out) hb); have n1_ := Aside0.mk (Kd.V_below (Kd.V_elderB (pv HO412.out) gb414 (Nat.le_of_eq hg.symm)) hb); have n2_ := Aside0.mk (blk_below (pk BK396.out) hb); have n3_ := Aside0.mk (blk_below (pk BK402.out) hb); have n4_ := Aside0.mk (below_step (pb HB) hb); have n5_ := Aside0.mk (hbox); have n6_ := Aside0.mk ((pg hg HB : w.heap.size ≤ gb414)); have n7_ := Aside0.mk ((pg hg HB : w.heap.size ≤ gb414)); have n8_ := Aside0.mk ((pl hg (pk BK396.out) : gb396 ≠ gb414)); have n9_ := Aside0.mk ((pl' hg (pk BK396.out) : gb414 ≠ gb396)); have n10_ := Aside0.mk ((pl hg (pk BK402.out) : gb402 ≠ gb414)); have n11_ := Aside0.mk ((pl' hg (pk BK402.out) : gb414 ≠ gb402)); clear HO_403002; clear HO412; clear BK396; clear BK402; clear HB; have HO_403002 := n0_; have HO412 := n1_; have BK396 := n2_; have BK402 := n3_; have HB := n4_; have BK414 := n5_; have GW414 := n6_; have GE414 := n7_; have NB396_414 := n8_; have NB414_396 := n9_; have NB402_414 := n10_; have NB414_402 := n11_; clear n0_ n1_ n2_ n3_ n4_ n5_ n6_ n7_ n8_ n9_ n10_ n11_; clear hb hbox hg; have hnb320 := NB414_396.out; have hnc320 := NB396_414.out; have hnb321 := NB414_402.out; have hnc321 := NB402_414.out; have hcz322_0 := ce BK414 0; have hcz322_1 := ce BK414 1; have hcz322_2 := ce BK414 2; have hfz322_0 := fz BK414 0; have hfz322_1 := fz BK414 1; have hfz322_2 := fz BK414 2; obtain ⟨Ao323, co323, eo323⟩ := Kd.V_slice HO412.out; subst eo323) | ((with_reducible refine gate_store (t := 27) (p := 11) rfl ?_); refine store_event (t := 27) (p := 11) (v := ?vo_w324) (w1 := (((w319.setCell ⟨gb414, 0, none⟩ (.int .u64 t408)).setCell ⟨gb414, 1, none⟩ (.int .u64 t409)).setCell ⟨gb414, 2, none⟩ (.slice Ao323 t410.length co323))) ?hg ?ho ?hn ?hr ?_; (case ho => rfl); (case hg => rfl); (case hn => rfl); (case hr => first | (go_simp; done) | (go_simp; rfl)); intro w324 hw; have n0_ : Aside0 (Kd.R k46 46 w324 w.heap.size (fun _ => True) (.slice Ao12 t399.length co12) t399) := ⟨(by rw [hw]; exact (pr (Kd.R_mono (Kd.R_far (p := ⟨gb414, 2, none⟩) (Kd.R_far (p := ⟨gb414, 1, none⟩) (Kd.R_far (p := ⟨gb414, 0, none⟩) (Kd.R_types HO_403002.out BK414.out (by decide)) (fun _ hk => hk.2) (.int .u64 t408)) (fun _ hk => hk.2) (.int .u64 t409)) (fun _ hk => hk.2) (.slice Ao323 t410.length co323)) (fun _ hk => trivial))))⟩; have n1_ : Aside0 (Kd.V k60 60 w324 w.heap.size (fun k_ => some k_ ≠ (.slice Ao12 t399.length co12 : Value).ownBlock ∧ k_ ≠ gb396 ∧ k_ ≠ gb402 ∧ k_ ≠ gb414) (.slice Ao323 t410.length co323) t410) := ⟨(by rw [hw]; exact (pv (Kd.V_mono (Kd.V_far (p := ⟨gb414, 2, none⟩) (Kd.V_far (p := ⟨gb414, 1, none⟩) (Kd.V_far (p := ⟨gb414, 0, none⟩) (Kd.V_mono HO412.out (fun k_ hk => (⟨hk, hk.2⟩ : _ ∧ k_ ≠ gb414))) (fun _ hk => hk.2) (.int .u64 t408)) (fun _ hk => hk.2) (.int .u64 t409)) (fun _ hk => hk.2) (.slice Ao323 t410.length co323)) (fun _ hk => ⟨hk.1.1.1, ⟨hk.1.1.2.1, ⟨hk.1.1.2.2, hk.1.2⟩⟩⟩))))⟩; have n2_ : Aside0 (w324.heap[gb396]? = some (.cells #[.int .u64 a0_0, .int .u64 a0_1, .slice A0_2 l0_2.length c0_2] 27 (0, 0))) := ⟨(by rw [hw]; exact (by refine pk ?_; refine blk_far ?_ NB396_414.out _; refine pk ?_; refine blk_far ?_ NB396_414.out _; refine pk ?_; refine blk_far ?_ NB396_414.out _; refine pk ?_; exact BK396.out))⟩; have n3_ : Aside0 (w324.heap[gb402]? = some (.cells #[.int .u64 t397, .int .u64 t398, .slice Ao12 t399.length co12] 30 (0, 0))) := ⟨(by rw [hw]; exact (by refine pk ?_; refine blk_far ?_ NB402_414.out _; refine pk ?_; refine blk_far ?_ NB402_414.out _; refine pk ?_; refine blk_far ?_ NB402_414.out _; refine pk ?_; exact BK402.out))⟩; have n4_ : Aside0 (w324.heap[gb414]? = some (.cells #[.int .u64 t408, .int .u64 t409, .slice Ao323 t410.length co323] 27 (0, 0))) := ⟨(by rw [hw]; exact (by refine pk ?_; refine blk_put (cs := #[.int .u64 t408, .int .u64 t409, .slice none 0 0]) ?_ 2 _ rfl; refine pk ?_; refine blk_put (cs := #[.int .u64 t408, .int .u64 0, .slice none 0 0]) ?_ 1 _ rfl; refine pk ?_; refine blk_put (cs := #[.int .u64 0, .int .u64 0, .slice none 0 0]) ?_ 0 _ rfl; refine pk ?_; exact BK414.out))⟩; have n5_ : Aside0 (Below w.heap.size w w324) := ⟨(by rw [hw]; exact (pb HB))⟩; clear hw; clear HO_403002; clear HO412; clear BK396; clear BK402; clear BK414; clear HB; have HO_403002 := n0_; have HO412 := n1_; have BK396 := n2_; have BK402 := n3_; have BK414 := n4_; have HB := n5_; clear n0_ n1_ n2_ n3_ n4_ n5_; have hcz325_0 := ce BK396 0; have hcz325_1 := ce BK396 1; have hcz325_2 := ce BK396 2; have hfz325_0 := fz BK396 0; have hfz325_1 := fz BK396 1; have hfz325_2 := fz BK396 2) | ((with_reducible refine gate_callee (f := 14) rfl ?_); refine gl (some 49) Try.func14 #[.agg #[.int .u64 a0_0, .int .u64 a0_1, .slice A0_2 l0_2.length c0_2], .string a1] ?_; (with_reducible refine (index_Delete.calls kj4 a0_0 a0_1 (fun k_ => k_ < w.heap.size) _ _ l0_2 a1 t415 t416 t417 t420 _ ?side1 A27.out).mono ?_); (case side1 => exact Kd.V_mk HC0_2.out (Kd.F_below (Kd.C_F k60_heap HR0_2.out) (pb HB))); rintro e w326 ⟨v418, rfl, ho0, hb⟩; refine ⟨_, rfl, ?_⟩; have n0_ := Aside0.mk (Kd.R_below (pr HO_403002.out) hb); have n1_ := Aside0.mk (Kd.V_below (pv HO412.out) hb); have n2_ := Aside0.mk (Kd.V_lower (Kd.V_mono (ok' := fun k_ => some k_ ≠ (.slice Ao12 t399.length co12 : Value).ownBlock ∧ k_ ≠ gb396 ∧ k_ ≠ gb402 ∧ k_ ≠ gb414) ho0 (fun k_ hk_ => ⟨Or.elim hk_ (fun hs_ => fun e_ => Nat.not_le.2 hs_ (Kd.R_base HO_403002.out k_ e_.symm)) (fun hn_ => (Kd.fresh' (Kd.R_lt (pr HO_403002.out)) k_ hn_)), Or.elim hk_ (fun hs_ => fun e_ => Nat.not_le.2 hs_ (by rw [e_]; exact GW396.out)) (fun hn_ => (Kd.freshB (g := gb396) (o := .cells #[.int .u64 a0_0, .int .u64 a0_1, .slice A0_2 l0_2.length c0_2] 27 (0, 0)) (pk BK396.out) k_ hn_)), Or.elim hk_ (fun hs_ => fun e_ => Nat.not_le.2 hs_ (by rw [e_]; exact GW402.out)) (fun hn_ => (Kd.freshB (g := gb402) (o := .cells #[.int .u64 t397, .int .u64 t398, .slice Ao12 t399.length co12] 30 (0, 0)) (pk BK402.out) k_ hn_)), Or.elim hk_ (fun hs_ => fun e_ => Nat.not_le.2 hs_ (by rw [e_]; exact GW414.out)) (fun hn_ => (Kd.freshB (g := gb414) (o := .cells #[.int .u64 t408, .int .u64 t409, .slice Ao323 t410.length co323] 27 (0, 0)) (pk BK414.out) k_ hn_))⟩)) (below_size (pb HB))); have n3_ := Aside0.mk (blk_below (pk BK396.out) hb); have n4_ := Aside0.mk (blk_below (pk BK402.out) hb); have n5_ := Aside0.mk (blk_below (pk BK414.out) hb); have n6_ := Aside0.mk (below_step (pb HB) hb); clear HO_403002; clear HO412; clear BK396; clear BK402; clear BK414; clear HB; have HO_403002 := n0_; have HO412 := n1_; have HO419 := n2_; have BK396 := n3_; have BK402 := n4_; have BK414 := n5_; have HB := n6_; clear n0_ n1_ n2_ n3_ n4_ n5_ n6_; (try clear hb); (try clear hb2); (try clear hk); (try clear hi); (try clear ho0)) | ((with_reducible refine gate_dst (N := 13) rfl ?_); (try (refine gate_guard (by rfl) ?_; dsimp only)); refine box_event ?hg (N := 13) ?hd (cs := #[.int .u64 0, .int .u64 0, .slice none 0 0]) (t := 27) ?hr ?_; (case hd => rfl); (case hg => rfl); (case hr => first | (go_simp; done) | (go_simp; rfl)); intro gb421 hg w327 hbox hb; have n0_ := Aside0.mk (Kd.R_below (pr HO_403002.out) hb); have n1_ := Aside0.mk (Kd.V_below (Kd.V_elderB (pv HO412.out) gb421 (Nat.le_of_eq hg.symm)) hb); have n2_ := Aside0.mk (Kd.V_below (Kd.V_elderB (pv HO419.out) gb421 (Nat.le_of_eq hg.symm)) hb); have n3_ := Aside0.mk (blk_below (pk BK396.out) hb); have n4_ := Aside0.mk (blk_below (pk BK402.out) hb); have n5_ := Aside0.mk (blk_below (pk BK414.out) hb); have n6_ := Aside0.mk (below_step (pb HB) hb); have n7_ := Aside0.mk (hbox); have n8_ := Aside0.mk ((pg hg HB : w.heap.size ≤ gb421)); have n9_ := Aside0.mk ((pg hg HB : w.heap.size ≤ gb421)); have n10_ := Aside0.mk ((pl hg (pk BK396.out) : gb396 ≠ gb421)); have n11_ := Aside0.mk ((pl' hg (pk BK396.out) : gb421 ≠ gb396)); have n12_ := Aside0.mk ((pl hg (pk BK402.out) : gb402 ≠ gb421)); have n13_ := Aside0.mk ((pl' hg (pk BK402.out) : gb421 ≠ gb402)); have n14_ := Aside0.mk ((pl hg (pk BK414.out) : gb414 ≠ gb421)); have n15_ := Aside0.mk ((pl' hg (pk BK414.out) : gb421 ≠ gb414)); clear HO_403002; clear HO412; clear HO419; clear BK396; clear BK402; clear BK414; clear HB; have HO_403002 := n0_; have HO412 := n1_; have HO419 := n2_; have BK396 := n3_; have BK402 := n4_; have BK414 := n5_; have HB := n6_; have BK421 := n7_; have GW421 := n8_; have GE421 := n9_; have NB396_421 := n10_; have NB421_396 := n11_; have NB402_421 := n12_; have NB421_402 := n13_; have NB414_421 := n14_; have NB421_414 := n15_; clear n0_ n1_ n2_ n3_ n4_ n5_ n6_ n7_ n8_ n9_ n10_ n11_ n12_ n13_ n14_ n15_; clear hb hbox hg; have hnb328 := NB421_396.out; have hnc328 := NB396_421.out; have hnb329 := NB421_402.out; have hnc329 := NB402_421.out; have hnb330 := NB421_414.out; have hnc330 := NB414_421.out; have hcz331_0 := ce BK421 0; have hcz331_1 := ce BK421 1; have hcz331_2 := ce BK421 2; have hfz331_0 := fz BK421 0; have hfz331_1 := fz BK421 1; have hfz331_2 := fz BK421 2; obtain ⟨Ao332, co332, eo332⟩ := Kd.V_slice HO419.out; subst eo332; have hcz333_0 := ce BK396 0; have hcz333_1 := ce BK396 1; have hcz333_2 := ce BK396 2; have hfz333_0 := fz BK396 0; have hfz333_1 := fz BK396 1; have hfz333_2 := fz BK396 2) | ((with_reducible refine gate_callee (f := 15) rfl ?_); refine gl (some 53) Try.func15 #[.agg #[.int .u64 a0_0, .int .u64 a0_1, .slice A0_2 l0_2.length c0_2]] ?_; (with_reducible refine (index_Right.calls kj4 a0_0 a0_1 _ _ l0_2 t422 _ ?side1 ?side2 A28.out).mono ?_); (case side1 => exact Kd.C_below HR0_2.out (pb HB)); (case side2 => exact HC0_2.out); rintro e w334 ⟨rfl, hb⟩; refine ⟨_, rfl, ?_⟩; replace HO_403002 := Aside0.mk (Kd.R_below (pr ((Kd.R_mono (Kd.R_far (p := ⟨gb421, 2, none⟩) (Kd.R_far (p := ⟨gb421, 1, none⟩) (Kd.R_far (p := ⟨gb421, 0, none⟩) (Kd.R_types HO_403002.out BK421.out (by decide)) (fun _ hk => hk.2) (.int .u64 t415)) (fun _ hk => hk.2) (.int .u64 t416)) (fun _ hk => hk.2) (.slice Ao332 t417.length co332)) (fun _ h_ => h_.1)))) hb); replace HO412 := Aside0.mk (Kd.V_below (pv ((Kd.V_mono (Kd.V_far (p := ⟨gb421, 2, none⟩) (Kd.V_far (p := ⟨gb421, 1, none⟩) (Kd.V_far (p := ⟨gb421, 0, none⟩) (Kd.V_mono HO412.out (fun k_ hk => (⟨hk, hk.2⟩ : _ ∧ k_ ≠ gb421))) (fun _ hk => hk.2) (.int .u64 t415)) (fun _ hk => hk.2) (.int .u64 t416)) (fun _ hk => hk.2) (.slice Ao332 t417.length co332)) (fun _ h_ => h_.1)))) hb); replace HO419 := Aside0.mk (Kd.V_below (pv ((Kd.V_mono (Kd.V_far (p := ⟨gb421, 2, none⟩) (Kd.V_far (p := ⟨gb421, 1, none⟩) (Kd.V_far (p := ⟨gb421, 0, none⟩) (Kd.V_mono HO419.out (fun k_ hk => (⟨hk, hk.2⟩ : _ ∧ k_ ≠ gb421))) (fun _ hk => hk.2) (.int .u64 t415)) (fun _ hk => hk.2) (.int .u64 t416)) (fun _ hk => hk.2) (.slice Ao332 t417.length co332)) (fun _ h_ => h_.1)))) hb); replace BK396 := Aside0.mk (blk_below (g := gb396) (o := .cells #[.int .u64 a0_0, .int .u64 a0_1, .slice A0_2 l0_2.length c0_2] 27 (0, 0)) (by refine pk ?_; refine blk_far ?_ NB396_421.out _; refine pk ?_; refine blk_far ?_ NB396_421.out _; refine pk ?_; refine blk_far ?_ NB396_421.out _; refine pk ?_; exact BK396.out) hb); replace BK402 := Aside0.mk (blk_below (g := gb402) (o := .cells #[.int .u64 t397, .int .u64 t398, .slice Ao12 t399.length co12] 30 (0, 0)) (by refine pk ?_; refine blk_far ?_ NB402_421.out _; refine pk ?_; refine blk_far ?_ NB402_421.out _; refine pk ?_; refine blk_far ?_ NB402_421.out _; refine pk ?_; exact BK402.out) hb); replace BK414 := Aside0.mk (blk_below (g := gb414) (o := .cells #[.int .u64 t408, .int .u64 t409, .slice Ao323 t410.length co323] 27 (0, 0)) (by refine pk ?_; refine blk_far ?_ NB414_421.out _; refine pk ?_; refine blk_far ?_ NB414_421.out _; refine pk ?_; refine blk_far ?_ NB414_421.out _; refine pk ?_; exact BK414.out) hb); replace BK421 := Aside0.mk (blk_below (g := gb421) (o := .cells #[.int .u64 t415, .int .u64 t416, .slice Ao332 t417.length co332] 27 (0, 0)) (by refine pk ?_; refine blk_put (cs := #[.int .u64 t415, .int .u64 t416, .slice none 0 0]) ?_ 2 _ rfl; refine pk ?_; refine blk_put (cs := #[.int .u64 t415, .int .u64 0, .slice none 0 0]) ?_ 1 _ rfl; refine pk ?_; refine blk_put (cs := #[.int .u64 0, .int .u64 0, .slice none 0 0]) ?_ 0 _ rfl; refine pk ?_; exact BK421.out) hb); replace HB := Aside0.mk (below_step (pb HB) hb); (try clear hb); (try clear hb2); (try clear hk); (try clear hi)))
             replace HO_403002 := Aside0.mk (Kd.R_drew HO_403002.out)
             replace HO412 := Aside0.mk (Kd.V_drew HO412.out)
             replace HO419 := Aside0.mk (Kd.V_drew HO419.out)
             replace BK396 := Aside0.mk (blk_drew BK396.out)
             replace BK402 := Aside0.mk (blk_drew BK402.out)
             replace BK414 := Aside0.mk (blk_drew BK414.out)
             replace BK421 := Aside0.mk (blk_drew BK421.out)
             replace HB := Aside0.mk (below_drew1 HB.out)
             refine start_ (n := 35) (S := fun w' => w'.cell? ⟨gb396, 0, none⟩ = some (.int .u64 a0_0) ∧ w'.cell? ⟨gb396, 1, none⟩ = some (.int .u64 a0_1) ∧ w'.cell? ⟨gb396, 2, none⟩ = some (.slice A0_2 l0_2.length c0_2) ∧ w'.cell? ⟨gb414, 0, none⟩ = some (.int .u64 t408) ∧ w'.cell? ⟨gb414, 1, none⟩ = some (.int .u64 t409) ∧ w'.cell? ⟨gb414, 2, none⟩ = some (.slice Ao323 t410.length co323) ∧ w'.cell? ⟨gb402, 0, none⟩ = some (.int .u64 t397) ∧ w'.cell? ⟨gb402, 1, none⟩ = some (.int .u64 t398) ∧ w'.cell? ⟨gb402, 2, none⟩ = some (.slice Ao12 t399.length co12) ∧ w'.cell? ⟨gb421, 0, none⟩ = some (.int .u64 t415) ∧ w'.cell? ⟨gb421, 1, none⟩ = some (.int .u64 t416) ∧ w'.cell? ⟨gb421, 2, none⟩ = some (.slice Ao332 t417.length co332)) (ds := []) #[false, false, false, false, false, false, false, false, false, false, false, false, false, false, false, false, false, false, false, false, false, false, false, false, false, false, false, false, false, false, false, false, false, false, false] (by kernel_rfl) rfl rfl ⟨ce BK396 0, ce BK396 1, ce BK396 2, ce BK414 0, ce BK414 1, ce BK414 2, ce BK402 0, ce BK402 1, ce BK402 2, ce BK421 0, ce BK421 1, ce BK421 2⟩ (fun hHeld => ?_); refine with_tabW samphirelaw12_IndexTells.tab11 samphirelaw12_IndexTells.bits11 (fun HT_ HW_ => ?_)
             generalize w334.drew = w335 at HO_403002 HO412 HO419 BK396 BK402 BK414 BK421 HB hHeld ⊢
             refine ta 0 hHeld ?_
             refine on1 1 (fun K hK => ?_)
             refine gs Try.func16 #[.agg #[.int .u64 a0_0, .int .u64 a0_1, .slice A0_2 l0_2.length c0_2]] ?_
             with_reducible refine (index_Many.calls kj4 a0_0 a0_1 _ _ l0_2 t423 _ ?side1 ?side2 A274.out).mono ?_
             (case side1 => repeat (first | exact (Kd.C_below HR0_2.out HB.out) | (with_reducible refine Kd.C_alloc ?_ _) | (with_reducible refine Kd.C_drewN ?_ _) | (with_reducible refine Kd.C_drew ?_)))
             (case side2 => exact HC0_2.out)
             rintro e w336 ⟨rfl, hb⟩
             refine ⟨_, rfl, ?_⟩
             replace HO_403002 := Aside0.mk (Kd.R_below (pr HO_403002.out) hb)
             replace HO412 := Aside0.mk (Kd.V_below (pv HO412.out) hb)
             replace HO419 := Aside0.mk (Kd.V_below (pv HO419.out) hb)
             replace BK396 := Aside0.mk (blk_below (pk BK396.out) hb)
             replace BK402 := Aside0.mk (blk_below (pk BK402.out) hb)
             replace BK414 := Aside0.mk (blk_below (pk BK414.out) hb)
             replace BK421 := Aside0.mk (blk_below (pk BK421.out) hb)
             replace HB := Aside0.mk (below_step (pb HB) hb)
             (try clear hb)
             (try clear hb2)
             (try clear hk)
             (try clear hi)
             refine hK.out _ _ ⟨ce BK396 0, ce BK396 1, ce BK396 2, ce BK414 0, ce BK414 1, ce BK414 2, ce BK402 0, ce BK402 1, ce BK402 2, ce BK421 0, ce BK421 1, ce BK421 2⟩ (fun hHeld => ?_)
             clear hK K
             refine nm ?_
             refine pu 2 ?_
             refine pu 3 ?_
             refine pu 4 ?_
             refine pu 5 ?_
             refine pu 6 ?_
             refine pu 7 ?_
             refine pu 8 ?_
             refine pu 9 ?_
             refine pu 10 ?_
             refine pu 11 ?_
             refine pu 12 ?_
             refine pu 13 ?_
             refine pu 14 ?_
             refine pu 15 ?_
             refine pu 16 ?_
             refine pu 17 ?_
             refine pu 18 ?_
             refine pu 19 ?_
             refine ta 20 hHeld ?_
             refine ta 22 hHeld ?_
             refine on1 21 (fun K hK => ?_)
             refine gs Try.func8 #[.agg #[.int .u64 t408, .int .u64 t409, .slice Ao323 t410.length co323]] ?_
             with_reducible refine (samphirelaw12_Ref.calls kj4 t408 t409 _ _ t410 t424 t425 t426 _ ?side1 ?side2 A305.out).mono ?_
             (case side1 => repeat (first | exact (Kd.V_reads' HO412.out).2.2 | (with_reducible refine Kd.C_alloc ?_ _) | (with_reducible refine Kd.C_drewN ?_ _) | (with_reducible refine Kd.C_drew ?_)))
             (case side2 => exact (Kd.V_reads' HO412.out).2.1)
             rintro e w337 ⟨v427, rfl, ho0, hb⟩
             refine ⟨_, rfl, ?_⟩
             have n0_ := Aside0.mk (Kd.R_elder' (pr HO_403002.out) (Kd.R_base ho0) hb)
             have n1_ := Aside0.mk (Kd.V_elder' (pv HO412.out) (Kd.R_base ho0) hb)
             have n2_ := Aside0.mk (Kd.V_elder' (pv HO419.out) (Kd.R_base ho0) hb)
             have n3_ := Aside0.mk (Kd.R_lower (Kd.R_new' ho0 (Kd.R_lt (pr HO_403002.out))) (below_size (pb HB)))
             have n4_ := Aside0.mk (blk_below (pk BK396.out) hb)
             have n5_ := Aside0.mk (blk_below (pk BK402.out) hb)
             have n6_ := Aside0.mk (blk_below (pk BK414.out) hb)
             have n7_ := Aside0.mk (blk_below (pk BK421.out) hb)
             have n8_ := Aside0.mk (below_step (pb HB) hb)
             clear HO_403002 HO412 HO419 BK396 BK402 BK414 BK421 HB
             have HO_403002 := n0_
             have HO412 := n1_
             have HO419 := n2_
             have HO428 := n3_
             have BK396 := n4_
             have BK402 := n5_
             have BK414 := n6_
             have BK421 := n7_
             have HB := n8_
             clear n0_ n1_ n2_ n3_ n4_ n5_ n6_ n7_ n8_
             (try clear hb)
             (try clear hb2)
             (try clear hk)
             (try clear hi)
             (try clear ho0)
             obtain ⟨Ao338, co338, eo338⟩ := Kd.R_slice HO428.out
             (first | subst eo338 | (injection eo338 with f1_ f2_ f3_; have f4_ := f1_.symm; have f5_ := f3_.symm; clear f1_ f2_ f3_; subst f4_; subst f5_))
             refine hK.out _ _ ⟨ce BK396 0, ce BK396 1, ce BK396 2, ce BK414 0, ce BK414 1, ce BK414 2, ce BK402 0, ce BK402 1, ce BK402 2, ce BK421 0, ce BK421 1, ce BK421 2⟩ (fun hHeld => ?_)
             clear hK K
             refine nm ?_
             refine on1 23 (fun K hK => ?_)
             refine gs Try.func17 #[.agg #[.int .u64 t424, .int .u64 t425, .slice Ao338 t426.length co338], .agg #[.int .u64 t397, .int .u64 t398, .slice Ao12 t399.length co12]] ?_
             with_reducible refine (samphireref12_Same.calls kj4 t424 t425 _ _ t426 t397 t398 _ _ t399 true _ ?side1 ?side2 ?side3 ?side4 A306.out).mono ?_
             (case side1 => repeat (first | exact (Kd.R_reads' HO428.out).2.2 | (with_reducible refine Kd.C_alloc ?_ _) | (with_reducible refine Kd.C_drewN ?_ _) | (with_reducible refine Kd.C_drew ?_)))
             (case side2 => exact (Kd.R_reads' HO428.out).2.1)
             (case side3 => repeat (first | exact (Kd.R_reads' HO_403002.out).2.2 | (with_reducible refine Kd.C_alloc ?_ _) | (with_reducible refine Kd.C_drewN ?_ _) | (with_reducible refine Kd.C_drew ?_)))
             (case side4 => exact (Kd.R_reads' HO_403002.out).2.1)
             rintro e w339 ⟨rfl, hb⟩
             refine ⟨_, rfl, ?_⟩
             replace HO_403002 := Aside0.mk (Kd.R_below (pr HO_403002.out) hb)
             replace HO412 := Aside0.mk (Kd.V_below (pv HO412.out) hb)
             replace HO419 := Aside0.mk (Kd.V_below (pv HO419.out) hb)
             replace HO428 := Aside0.mk (Kd.R_below (pr HO428.out) hb)
             replace BK396 := Aside0.mk (blk_below (pk BK396.out) hb)
             replace BK402 := Aside0.mk (blk_below (pk BK402.out) hb)
             replace BK414 := Aside0.mk (blk_below (pk BK414.out) hb)
             replace BK421 := Aside0.mk (blk_below (pk BK421.out) hb)
             replace HB := Aside0.mk (below_step (pb HB) hb)
             (try clear hb)
             (try clear hb2)
             (try clear hk)
             (try clear hi)
             refine hK.out _ _ ⟨ce BK396 0, ce BK396 1, ce BK396 2, ce BK414 0, ce BK414 1, ce BK414 2, ce BK402 0, ce BK402 1, ce BK402 2, ce BK421 0, ce BK421 1, ce BK421 2⟩ (fun hHeld => ?_)
             clear hK K
             refine nm ?_
             refine pu 24 ?_
             refine pu 25 ?_
             refine ta 26 hHeld ?_
             refine ta 28 hHeld ?_
             refine on1 27 (fun K hK => ?_)
             refine gs Try.func8 #[.agg #[.int .u64 t415, .int .u64 t416, .slice Ao332 t417.length co332]] ?_
             with_reducible refine (samphirelaw12_Ref.calls kj4 t415 t416 _ _ t417 t430 t431 t432 _ ?side1 ?side2 A308.out).mono ?_
             (case side1 => repeat (first | exact (Kd.V_reads' HO419.out).2.2 | (with_reducible refine Kd.C_alloc ?_ _) | (with_reducible refine Kd.C_drewN ?_ _) | (with_reducible refine Kd.C_drew ?_)))
             (case side2 => exact (Kd.V_reads' HO419.out).2.1)
             rintro e w340 ⟨v433, rfl, ho0, hb⟩
             refine ⟨_, rfl, ?_⟩
             have n0_ := Aside0.mk (Kd.R_elder' (pr HO_403002.out) (Kd.R_base ho0) hb)
             have n1_ := Aside0.mk (Kd.V_elder' (pv HO412.out) (Kd.R_base ho0) hb)
             have n2_ := Aside0.mk (Kd.V_elder' (pv HO419.out) (Kd.R_base ho0) hb)
             have n3_ := Aside0.mk (Kd.R_elder' (pr HO428.out) (Kd.R_base ho0) hb)
             have n4_ := Aside0.mk (Kd.R_lower (Kd.R_new' (Kd.R_new' ho0 (Kd.R_lt (pr HO_403002.out))) (Kd.R_lt (pr HO428.out))) (below_size (pb HB)))
             have n5_ := Aside0.mk (blk_below (pk BK396.out) hb)
             have n6_ := Aside0.mk (blk_below (pk BK402.out) hb)
             have n7_ := Aside0.mk (blk_below (pk BK414.out) hb)
             have n8_ := Aside0.mk (blk_below (pk BK421.out) hb)
             have n9_ := Aside0.mk (below_step (pb HB) hb)
             clear HO_403002 HO412 HO419 HO428 BK396 BK402 BK414 BK421 HB
             have HO_403002 := n0_
             have HO412 := n1_
             have HO419 := n2_
             have HO428 := n3_
             have HO434 := n4_
             have BK396 := n5_
             have BK402 := n6_
             have BK414 := n7_
             have BK421 := n8_
             have HB := n9_
             clear n0_ n1_ n2_ n3_ n4_ n5_ n6_ n7_ n8_ n9_
             (try clear hb)
             (try clear hb2)
             (try clear hk)
             (try clear hi)
             (try clear ho0)
             obtain ⟨Ao341, co341, eo341⟩ := Kd.R_slice HO434.out
             (first | subst eo341 | (injection eo341 with f1_ f2_ f3_; have f4_ := f1_.symm; have f5_ := f3_.symm; clear f1_ f2_ f3_; subst f4_; subst f5_))
             refine hK.out _ _ ⟨ce BK396 0, ce BK396 1, ce BK396 2, ce BK414 0, ce BK414 1, ce BK414 2, ce BK402 0, ce BK402 1, ce BK402 2, ce BK421 0, ce BK421 1, ce BK421 2⟩ (fun hHeld => ?_)
             clear hK K
             refine nm ?_
             refine on1 29 (fun K hK => ?_)
             refine gs Try.func17 #[.agg #[.int .u64 t430, .int .u64 t431, .slice Ao341 t432.length co341], .agg #[.int .u64 t397, .int .u64 t398, .slice Ao12 t399.length co12]] ?_
             with_reducible refine (samphireref12_Same.calls kj4 t430 t431 _ _ t432 t397 t398 _ _ t399 true _ ?side1 ?side2 ?side3 ?side4 A309.out).mono ?_
             (case side1 => repeat (first | exact (Kd.R_reads' HO434.out).2.2 | (with_reducible refine Kd.C_alloc ?_ _) | (with_reducible refine Kd.C_drewN ?_ _) | (with_reducible refine Kd.C_drew ?_)))
             (case side2 => exact (Kd.R_reads' HO434.out).2.1)
             (case side3 => repeat (first | exact (Kd.R_reads' HO_403002.out).2.2 | (with_reducible refine Kd.C_alloc ?_ _) | (with_reducible refine Kd.C_drewN ?_ _) | (with_reducible refine Kd.C_drew ?_)))
             (case side4 => exact (Kd.R_reads' HO_403002.out).2.1)
             rintro e w342 ⟨rfl, hb⟩
             refine ⟨_, rfl, ?_⟩
             replace HO_403002 := Aside0.mk (Kd.R_below (pr HO_403002.out) hb)
             replace HO412 := Aside0.mk (Kd.V_below (pv HO412.out) hb)
             replace HO419 := Aside0.mk (Kd.V_below (pv HO419.out) hb)
             replace HO428 := Aside0.mk (Kd.R_below (pr HO428.out) hb)
             replace HO434 := Aside0.mk (Kd.R_below (pr HO434.out) hb)
             replace BK396 := Aside0.mk (blk_below (pk BK396.out) hb)
             replace BK402 := Aside0.mk (blk_below (pk BK402.out) hb)
             replace BK414 := Aside0.mk (blk_below (pk BK414.out) hb)
             replace BK421 := Aside0.mk (blk_below (pk BK421.out) hb)
             replace HB := Aside0.mk (below_step (pb HB) hb)
             (try clear hb)
             (try clear hb2)
             (try clear hk)
             (try clear hi)
             refine hK.out _ _ ⟨ce BK396 0, ce BK396 1, ce BK396 2, ce BK414 0, ce BK414 1, ce BK414 2, ce BK402 0, ce BK402 1, ce BK402 2, ce BK421 0, ce BK421 1, ce BK421 2⟩ (fun hHeld => ?_)
             clear hK K
             refine nm ?_
             refine pu 30 ?_
             refine pu 31 ?_
             refine on1 32 (fun K hK => ?_)
             refine gs Try.func10 #[] ?_
             with_reducible refine (samphirelaw12_awake.calls kj4  t436 hrT _ A311.out).mono ?_
             rintro e w343 ⟨rfl, hb⟩
             refine ⟨_, rfl, ?_⟩
             replace HO_403002 := Aside0.mk (Kd.R_below (pr HO_403002.out) hb)
             replace HO412 := Aside0.mk (Kd.V_below (pv HO412.out) hb)
             replace HO419 := Aside0.mk (Kd.V_below (pv HO419.out) hb)
             replace HO428 := Aside0.mk (Kd.R_below (pr HO428.out) hb)
             replace HO434 := Aside0.mk (Kd.R_below (pr HO434.out) hb)
             replace BK396 := Aside0.mk (blk_below (pk BK396.out) hb)
             replace BK402 := Aside0.mk (blk_below (pk BK402.out) hb)
             replace BK414 := Aside0.mk (blk_below (pk BK414.out) hb)
             replace BK421 := Aside0.mk (blk_below (pk BK421.out) hb)
             replace HB := Aside0.mk (below_step (pb HB) hb)
             (try clear hb)
             (try clear hb2)
             (try clear hk)
             (try clear hi)
             refine hK.out _ _ ⟨ce BK396 0, ce BK396 1, ce BK396 2, ce BK414 0, ce BK414 1, ce BK414 2, ce BK402 0, ce BK402 1, ce BK402 2, ce BK421 0, ce BK421 1, ce BK421 2⟩ (fun hHeld => ?_)
             clear hK K
             refine nm ?_
             refine pu 33 ?_
             refine pu 34 ?_
             refine done_ (done_of HT_.out (by kernel_rfl)) ?_
             try go_wp2
             go_ret
             exact ⟨by first | rfl | (simp [errW_none, errW_some] <;> rfl) | (simp [*, errW_none, errW_some] <;> rfl), pb HB⟩
            ·replace c310 := Bool.eq_false_iff.mpr c310
             subst c310
             have H1 : (some false) = some r := by rw [if_neg (show ¬ (false = true) by decide)] at H; exact H
             exact Bool.noConfusion ((Option.some.inj H1).trans hrT.out)
           ·replace c307 := Bool.eq_false_iff.mpr c307
            subst c307
            have H1 : (some false) = some r := by rw [if_neg (show ¬ (false = true) by decide)] at H; exact H
            exact Bool.noConfusion ((Option.some.inj H1).trans hrT.out)
          ·rw [if_neg c304] at H
           exact Bool.noConfusion ((Option.some.inj H).trans hrT.out)
         ·rw [if_neg c303] at H
          exact Bool.noConfusion ((Option.some.inj H).trans hrT.out)
       ·rw [if_neg c276] at H
        exact Bool.noConfusion ((Option.some.inj H).trans hrT.out)
      ·rw [if_neg c275] at H
       exact Bool.noConfusion ((Option.some.inj H).trans hrT.out)
end Go.Proofs.Ytojpmjkphgjmgaa.H
