import Derived.Test.YtagcobdpojeiiaaHx0
import Derived.Test.YtagcobdpojeiiaaHx1
import Derived.Test.YtagcobdpojeiiaaHx17
namespace Go.Proofs.Ytagcobdpojeiiaa.H
open Go.RowKit Go.Proofs.YtagcobdpojeiiaaW.PrintWords Go.Proofs.YtagcobdpojeiiaaW.PrintLast Go.Proofs.YtagcobdpojeiiaaW.PrintMore Go.Proofs.YtagcobdpojeiiaaW.Sq
attribute [local go_sem] max2_int min2_int max_two min_two max_three min_three max_four min_four
set_option linter.unusedVariables false
set_option linter.unusedSimpArgs false

attribute [local go_sem high] eqA24
mutual
def r22_Same.j0 : Nat → Bool → Int → Int → Int → Int → Int → Int → List (S73) → Int → Int → Int → Int → Int → Int → List (S73) → Option (Bool)
 | 0, _, _, _, _, _, _, _, _, _, _, _, _, _, _, _ => none
 | k + 1, x50, x350000, x350001, x350002, x350003, x350004, x350005, x350006, x351000, x351001, x351002, x351003, x351004, x351005, x351006 => if x50 = true then (some false) else (r22_Same.l0 k 0 x350000 x350001 x350002 x350003 x350004 x350005 x350006 x351000 x351001 x351002 x351003 x351004 x351005 x351006)
def r22_Same.l0 : Nat → Int → Int → Int → Int → Int → Int → Int → List (S73) → Int → Int → Int → Int → Int → Int → List (S73) → Option (Bool)
 | 0, _, _, _, _, _, _, _, _, _, _, _, _, _, _, _ => none
 | k + 1, x5, x350000, x350001, x350002, x350003, x350004, x350005, x350006, x351000, x351001, x351002, x351003, x351004, x351005, x351006 => if x5 < (x350006.length : Int) then (if 0 ≤ x5 then (if x5 < (x351006.length : Int) then (if ((rd_T73 x350006 x5).f0) = ((rd_T73 x351006 x5).f0) then (r22_Same.j2 k x5 ((((rd_T73 x350006 x5).f1).length : Int) != (((rd_T73 x351006 x5).f1).length : Int)) x350000 x350001 x350002 x350003 x350004 x350005 x350006 x351000 x351001 x351002 x351003 x351004 x351005 x351006 ((rd_T73 x350006 x5).f0) ((rd_T73 x350006 x5).f1) ((rd_T73 x351006 x5).f0) ((rd_T73 x351006 x5).f1)) else (r22_Same.j2 k x5 true x350000 x350001 x350002 x350003 x350004 x350005 x350006 x351000 x351001 x351002 x351003 x351004 x351005 x351006 ((rd_T73 x350006 x5).f0) ((rd_T73 x350006 x5).f1) ((rd_T73 x351006 x5).f0) ((rd_T73 x351006 x5).f1))) else (none)) else (none)) else (some true)
def r22_Same.j2 : Nat → Int → Bool → Int → Int → Int → Int → Int → Int → List (S73) → Int → Int → Int → Int → Int → Int → List (S73) → Int → List (S71) → Int → List (S71) → Option (Bool)
 | 0, _, _, _, _, _, _, _, _, _, _, _, _, _, _, _, _, _, _, _, _ => none
 | k + 1, x5, x81, x350000, x350001, x350002, x350003, x350004, x350005, x350006, x351000, x351001, x351002, x351003, x351004, x351005, x351006, x354000, x354001, x355000, x355001 => if x81 = true then (some false) else (r22_Same.l1 k x5 0 x350000 x350001 x350002 x350003 x350004 x350005 x350006 x351000 x351001 x351002 x351003 x351004 x351005 x351006 x354000 x354001 x355000 x355001)
def r22_Same.l1 : Nat → Int → Int → Int → Int → Int → Int → Int → Int → List (S73) → Int → Int → Int → Int → Int → Int → List (S73) → Int → List (S71) → Int → List (S71) → Option (Bool)
 | 0, _, _, _, _, _, _, _, _, _, _, _, _, _, _, _, _, _, _, _, _ => none
 | k + 1, x5, x8, x350000, x350001, x350002, x350003, x350004, x350005, x350006, x351000, x351001, x351002, x351003, x351004, x351005, x351006, x354000, x354001, x355000, x355001 => if x8 < (x354001.length : Int) then (if 0 ≤ x8 then (if x8 < (x355001.length : Int) then (if ((rd_T71 x354001 x8).f0).toList = ((rd_T71 x355001 x8).f0).toList then (if ((rd_T71 x354001 x8).f1) = ((rd_T71 x355001 x8).f1) then ((r22_buckets.f k ((rd_T71 x354001 x8).f2) ((rd_T71 x355001 x8).f2)).bind fun t361 => (if t361 = true then (r22_Same.l1 k x5 (wrap64 (x8 + 1)) x350000 x350001 x350002 x350003 x350004 x350005 x350006 x351000 x351001 x351002 x351003 x351004 x351005 x351006 x354000 x354001 x355000 x355001) else (some false))) else (some false)) else (some false)) else (none)) else (none)) else (r22_Same.l0 k (wrap64 (x5 + 1)) x350000 x350001 x350002 x350003 x350004 x350005 x350006 x351000 x351001 x351002 x351003 x351004 x351005 x351006)
end
def r22_Same.f (k : Nat) (a0_0 : Int) (a0_1 : Int) (a0_2 : Int) (a0_3 : Int) (a0_4 : Int) (a0_5 : Int) (l0_6 : List (S73)) (a1_0 : Int) (a1_1 : Int) (a1_2 : Int) (a1_3 : Int) (a1_4 : Int) (a1_5 : Int) (l1_6 : List (S73)) : Option (Bool) := if (!(a0_0 == a1_0) || (!(a0_1 == a1_1))) = true then (r22_Same.j0 k true a0_0 a0_1 a0_2 a0_3 a0_4 a0_5 l0_6 a1_0 a1_1 a1_2 a1_3 a1_4 a1_5 l1_6) else (if a0_2 = a1_2 then (if a0_3 = a1_3 then (if a0_4 = a1_4 then (if a0_5 = a1_5 then (r22_Same.j0 k ((l0_6.length : Int) != (l1_6.length : Int)) a0_0 a0_1 a0_2 a0_3 a0_4 a0_5 l0_6 a1_0 a1_1 a1_2 a1_3 a1_4 a1_5 l1_6) else (r22_Same.j0 k true a0_0 a0_1 a0_2 a0_3 a0_4 a0_5 l0_6 a1_0 a1_1 a1_2 a1_3 a1_4 a1_5 l1_6)) else (r22_Same.j0 k true a0_0 a0_1 a0_2 a0_3 a0_4 a0_5 l0_6 a1_0 a1_1 a1_2 a1_3 a1_4 a1_5 l1_6)) else (r22_Same.j0 k true a0_0 a0_1 a0_2 a0_3 a0_4 a0_5 l0_6 a1_0 a1_1 a1_2 a1_3 a1_4 a1_5 l1_6)) else (r22_Same.j0 k true a0_0 a0_1 a0_2 a0_3 a0_4 a0_5 l0_6 a1_0 a1_1 a1_2 a1_3 a1_4 a1_5 l1_6))
theorem r22_Same.mono_l : ∀ k, (∀ y0 y1 y2 y3 y4 y5 y6 y7 y8 y9 y10 y11 y12 y13 y14, LeO (r22_Same.j0 k y0 y1 y2 y3 y4 y5 y6 y7 y8 y9 y10 y11 y12 y13 y14) (r22_Same.j0 (k + 1) y0 y1 y2 y3 y4 y5 y6 y7 y8 y9 y10 y11 y12 y13 y14)) ∧ (∀ y0 y1 y2 y3 y4 y5 y6 y7 y8 y9 y10 y11 y12 y13 y14, LeO (r22_Same.l0 k y0 y1 y2 y3 y4 y5 y6 y7 y8 y9 y10 y11 y12 y13 y14) (r22_Same.l0 (k + 1) y0 y1 y2 y3 y4 y5 y6 y7 y8 y9 y10 y11 y12 y13 y14)) ∧ (∀ y0 y1 y2 y3 y4 y5 y6 y7 y8 y9 y10 y11 y12 y13 y14 y15 y16 y17 y18 y19, LeO (r22_Same.j2 k y0 y1 y2 y3 y4 y5 y6 y7 y8 y9 y10 y11 y12 y13 y14 y15 y16 y17 y18 y19) (r22_Same.j2 (k + 1) y0 y1 y2 y3 y4 y5 y6 y7 y8 y9 y10 y11 y12 y13 y14 y15 y16 y17 y18 y19)) ∧ (∀ y0 y1 y2 y3 y4 y5 y6 y7 y8 y9 y10 y11 y12 y13 y14 y15 y16 y17 y18 y19, LeO (r22_Same.l1 k y0 y1 y2 y3 y4 y5 y6 y7 y8 y9 y10 y11 y12 y13 y14 y15 y16 y17 y18 y19) (r22_Same.l1 (k + 1) y0 y1 y2 y3 y4 y5 y6 y7 y8 y9 y10 y11 y12 y13 y14 y15 y16 y17 y18 y19))
 | 0 => ⟨fun _ _ _ _ _ _ _ _ _ _ _ _ _ _ _ r h => by simp [r22_Same.j0] at h, fun _ _ _ _ _ _ _ _ _ _ _ _ _ _ _ r h => by simp [r22_Same.l0] at h, fun _ _ _ _ _ _ _ _ _ _ _ _ _ _ _ _ _ _ _ _ r h => by simp [r22_Same.j2] at h, fun _ _ _ _ _ _ _ _ _ _ _ _ _ _ _ _ _ _ _ _ r h => by simp [r22_Same.l1] at h⟩
 | k + 1 => by
  obtain ⟨ih0, ih1, ih2, ih3⟩ := r22_Same.mono_l k
  refine ⟨?_, ?_, ?_, ?_⟩
  ·intro y0 y1 y2 y3 y4 y5 y6 y7 y8 y9 y10 y11 y12 y13 y14
   unfold r22_Same.j0
   repeat' first
   | (with_reducible exact ih0 _ _ _ _ _ _ _ _ _ _ _ _ _ _ _)
   | (with_reducible exact ih1 _ _ _ _ _ _ _ _ _ _ _ _ _ _ _)
   | (with_reducible exact ih2 _ _ _ _ _ _ _ _ _ _ _ _ _ _ _ _ _ _ _ _)
   | (with_reducible exact ih3 _ _ _ _ _ _ _ _ _ _ _ _ _ _ _ _ _ _ _ _)
   | (with_reducible exact r22_buckets.mono _ _ _)
   | (with_reducible exact LeO.refl _)
   | (with_reducible exact LeO.none _)
   | (with_reducible refine LeO.ite ?_ ?_)
   | (with_reducible refine LeO.bind ?_ (fun _ => ?_))
  ·intro y0 y1 y2 y3 y4 y5 y6 y7 y8 y9 y10 y11 y12 y13 y14
   unfold r22_Same.l0
   repeat' first
   | (with_reducible exact ih0 _ _ _ _ _ _ _ _ _ _ _ _ _ _ _)
   | (with_reducible exact ih1 _ _ _ _ _ _ _ _ _ _ _ _ _ _ _)
   | (with_reducible exact ih2 _ _ _ _ _ _ _ _ _ _ _ _ _ _ _ _ _ _ _ _)
   | (with_reducible exact ih3 _ _ _ _ _ _ _ _ _ _ _ _ _ _ _ _ _ _ _ _)
   | (with_reducible exact r22_buckets.mono _ _ _)
   | (with_reducible exact LeO.refl _)
   | (with_reducible exact LeO.none _)
   | (with_reducible refine LeO.ite ?_ ?_)
   | (with_reducible refine LeO.bind ?_ (fun _ => ?_))
  ·intro y0 y1 y2 y3 y4 y5 y6 y7 y8 y9 y10 y11 y12 y13 y14 y15 y16 y17 y18 y19
   unfold r22_Same.j2
   repeat' first
   | (with_reducible exact ih0 _ _ _ _ _ _ _ _ _ _ _ _ _ _ _)
   | (with_reducible exact ih1 _ _ _ _ _ _ _ _ _ _ _ _ _ _ _)
   | (with_reducible exact ih2 _ _ _ _ _ _ _ _ _ _ _ _ _ _ _ _ _ _ _ _)
   | (with_reducible exact ih3 _ _ _ _ _ _ _ _ _ _ _ _ _ _ _ _ _ _ _ _)
   | (with_reducible exact r22_buckets.mono _ _ _)
   | (with_reducible exact LeO.refl _)
   | (with_reducible exact LeO.none _)
   | (with_reducible refine LeO.ite ?_ ?_)
   | (with_reducible refine LeO.bind ?_ (fun _ => ?_))
  ·intro y0 y1 y2 y3 y4 y5 y6 y7 y8 y9 y10 y11 y12 y13 y14 y15 y16 y17 y18 y19
   unfold r22_Same.l1
   repeat' first
   | (with_reducible exact ih0 _ _ _ _ _ _ _ _ _ _ _ _ _ _ _)
   | (with_reducible exact ih1 _ _ _ _ _ _ _ _ _ _ _ _ _ _ _)
   | (with_reducible exact ih2 _ _ _ _ _ _ _ _ _ _ _ _ _ _ _ _ _ _ _ _)
   | (with_reducible exact ih3 _ _ _ _ _ _ _ _ _ _ _ _ _ _ _ _ _ _ _ _)
   | (with_reducible exact r22_buckets.mono _ _ _)
   | (with_reducible exact LeO.refl _)
   | (with_reducible exact LeO.none _)
   | (with_reducible refine LeO.ite ?_ ?_)
   | (with_reducible refine LeO.bind ?_ (fun _ => ?_))
theorem r22_Same.mono : ∀ a0 a1 a2 a3 a4 a5 a6 a7 a8 a9 a10 a11 a12 a13 k, LeO (r22_Same.f k a0 a1 a2 a3 a4 a5 a6 a7 a8 a9 a10 a11 a12 a13) (r22_Same.f (k + 1) a0 a1 a2 a3 a4 a5 a6 a7 a8 a9 a10 a11 a12 a13) := by
 intro a0 a1 a2 a3 a4 a5 a6 a7 a8 a9 a10 a11 a12 a13 k
 obtain ⟨ih0, ih1, ih2, ih3⟩ := r22_Same.mono_l k
 unfold r22_Same.f
 repeat' first
   | (with_reducible exact ih0 _ _ _ _ _ _ _ _ _ _ _ _ _ _ _)
   | (with_reducible exact ih1 _ _ _ _ _ _ _ _ _ _ _ _ _ _ _)
   | (with_reducible exact ih2 _ _ _ _ _ _ _ _ _ _ _ _ _ _ _ _ _ _ _ _)
   | (with_reducible exact ih3 _ _ _ _ _ _ _ _ _ _ _ _ _ _ _ _ _ _ _ _)
   | (with_reducible exact r22_buckets.mono _ _ _)
   | (with_reducible exact LeO.refl _)
   | (with_reducible exact LeO.none _)
   | (with_reducible refine LeO.ite ?_ ?_)
   | (with_reducible refine LeO.bind ?_ (fun _ => ?_))
def r22_Same.T6 : Bool × List (List Nat × List Nat) := (true, [([], []), ([0], [0]), ([], []), ([1, 2], [1, 2]), ([3], [3]), ([], []), ([5], [5]), ([], []), ([6, 7], [6, 7]), ([8], [8]), ([], []), ([], []), ([10, 4, 0, 1, 2, 3, 4, 10, 11], [4, 10]), ([11, 9, 12, 0, 1, 2, 3, 4, 5, 6, 7, 8, 9, 10, 11, 12], [9, 11])])
def r22_Same.B6 : List Nat := [0, 1, 0, 7, 15, 0, 32, 0, 224, 480, 0, 0, 3103, 8191]
theorem r22_Same.tab6 : rtab .any (opsOf Try.f18 6) = r22_Same.T6 := by kernel_rfl
theorem r22_Same.bits6 : waitsOk r22_Same.T6.2 r22_Same.B6 = true := by kernel_rfl
def r22_Same.T12 : Bool × List (List Nat × List Nat) := (true, [([], []), ([0], [0]), ([], []), ([1, 2], [1, 2]), ([3], [3]), ([4], [4]), ([], []), ([6], [6]), ([], []), ([7, 8], [7, 8]), ([9], [9]), ([10], [10]), ([5, 11], [5, 11]), ([12], [12]), ([13], [13]), ([14, 13], [13, 14]), ([13], [13]), ([15, 16, 13], [13, 15, 16]), ([17, 13], [13, 17]), ([18, 13], [13, 18]), ([13], [13]), ([20, 13], [13, 20]), ([13], [13]), ([21, 22, 13], [13, 21, 22]), ([23, 13], [13, 23]), ([24, 13], [13, 24]), ([19, 25, 13], [13, 19, 25]), ([13, 26], [13, 26]), ([27, 13], [27]), ([28], [28]), ([29, 28], [28, 29]), ([28], [28]), ([30, 31, 28], [28, 30, 31]), ([32, 28], [28, 32]), ([33, 28], [28, 33]), ([28], [28]), ([35, 28], [28, 35]), ([28], [28]), ([36, 37, 28], [28, 36, 37]), ([38, 28], [28, 38]), ([39, 28], [28, 39]), ([34, 40, 28, 28], [28, 34, 40]), ([41, 28], [28, 41]), ([28, 42], [28, 42])])
def r22_Same.B12 : List Nat := [0, 1, 0, 7, 15, 31, 0, 64, 0, 448, 960, 1984, 4095, 8191, 16383, 32767, 16383, 131071, 262143, 524287, 16383, 1064959, 16383, 7356415, 15745023, 32522239, 67108863, 134217727, 268435455, 536870911, 1073741823, 536870911, 4294967295, 8589934591, 17179869183, 536870911, 34896609279, 536870911, 241055039487, 515932946431, 1065688760319, 2199023255551, 4398046511103, 8796093022207]
theorem r22_Same.tab12 : rtab .any (opsOf Try.f18 12) = r22_Same.T12 := by kernel_rfl
theorem r22_Same.bits12 : waitsOk r22_Same.T12.2 r22_Same.B12 = true := by kernel_rfl
set_option maxHeartbeats 8000000 in
set_option maxRecDepth 100000 in
theorem r22_Same.calls (k : Nat) (a0_0 : Int) (a0_1 : Int) (a0_2 : Int) (a0_3 : Int) (a0_4 : Int) (a0_5 : Int) (A0_6 : Option Addr) (c0_6 : Nat) (l0_6 : List (S73)) (a1_0 : Int) (a1_1 : Int) (a1_2 : Int) (a1_3 : Int) (a1_4 : Int) (a1_5 : Int) (A1_6 : Option Addr) (c1_6 : Nat) (l1_6 : List (S73)) (r : Bool) (w : World) (hr0_6 : Kd.C k73 w A0_6 l0_6.length l0_6) (hc0_6 : l0_6.length ≤ c0_6) (hr1_6 : Kd.C k73 w A1_6 l1_6.length l1_6) (hc1_6 : l1_6.length ≤ c1_6) (h : r22_Same.f k a0_0 a0_1 a0_2 a0_3 a0_4 a0_5 l0_6 a1_0 a1_1 a1_2 a1_3 a1_4 a1_5 l1_6 = some r) :
  Calls Try.prog 18 #[.agg #[.int .u64 a0_0, .int .u64 a0_1, .int .i64 a0_2, .int .i64 a0_3, .int .i64 a0_4, .int .i64 a0_5, .slice A0_6 l0_6.length c0_6], .agg #[.int .u64 a1_0, .int .u64 a1_1, .int .i64 a1_2, .int .i64 a1_3, .int .i64 a1_4, .int .i64 a1_5, .slice A1_6 l1_6.length c1_6]] w fun e w' => e = .returned (.bool r) ∧ Below w.heap.size w w' := by
 have hu32 := Try.underlying32;have hu24 := Try.underlying24;have hu73 := Try.underlying73;have HR0_6 := am hr0_6;have HC0_6 := am hc0_6;clear hr0_6 hc0_6;have HR1_6 := am hr1_6;have HC1_6 := am hc1_6;clear hr1_6 hc1_6;have HB := am (Below.refl w.heap.size w);have H : (if (!(a0_0 == a1_0) || (!(a0_1 == a1_1))) = true then (r22_Same.j0 k true a0_0 a0_1 a0_2 a0_3 a0_4 a0_5 l0_6 a1_0 a1_1 a1_2 a1_3 a1_4 a1_5 l1_6) else (if a0_2 = a1_2 then (if a0_3 = a1_3 then (if a0_4 = a1_4 then (if a0_5 = a1_5 then (r22_Same.j0 k ((l0_6.length : Int) != (l1_6.length : Int)) a0_0 a0_1 a0_2 a0_3 a0_4 a0_5 l0_6 a1_0 a1_1 a1_2 a1_3 a1_4 a1_5 l1_6) else (r22_Same.j0 k true a0_0 a0_1 a0_2 a0_3 a0_4 a0_5 l0_6 a1_0 a1_1 a1_2 a1_3 a1_4 a1_5 l1_6)) else (r22_Same.j0 k true a0_0 a0_1 a0_2 a0_3 a0_4 a0_5 l0_6 a1_0 a1_1 a1_2 a1_3 a1_4 a1_5 l1_6)) else (r22_Same.j0 k true a0_0 a0_1 a0_2 a0_3 a0_4 a0_5 l0_6 a1_0 a1_1 a1_2 a1_3 a1_4 a1_5 l1_6)) else (r22_Same.j0 k true a0_0 a0_1 a0_2 a0_3 a0_4 a0_5 l0_6 a1_0 a1_1 a1_2 a1_3 a1_4 a1_5 l1_6))) = some r := h;clear h;have HC3 := am H;clear H
 go_enter Try.func18, Try.ntmps18
 go_upto_region 1 with (first | ((with_reducible refine gate_dst (N := 2) rfl ?_); (try (refine gate_guard (by rfl) ?_; dsimp only)); refine be 2 #[.int .u64 a0_0, .int .u64 a0_1, .int .i64 a0_2, .int .i64 a0_3, .int .i64 a0_4, .int .i64 a0_5, .slice A0_6 l0_6.length c0_6] 32 ?_; intro gb349 hg w4 hbox hb; have BK349 := am (hbox); have GW349 := gq hg HB; have GE349 := gq hg HB; replace HB := lb HB hb; clear hb hbox hg) | ((with_reducible refine gate_dst (N := 3) rfl ?_); (try (refine gate_guard (by rfl) ?_; dsimp only)); refine be 3 #[.int .u64 a1_0, .int .u64 a1_1, .int .i64 a1_2, .int .i64 a1_3, .int .i64 a1_4, .int .i64 a1_5, .slice A1_6 l1_6.length c1_6] 32 ?_; intro gb350 hg w5 hbox hb; have BK350 := am (hbox); have GW350 := gq hg HB; have GE350 := gq hg HB; replace HB := lb HB hb; obtain ⟨NB349_350, NB350_349, -, -⟩ := pm hg BK349; replace BK349 := kb BK349 hb; clear hb hbox hg))
 (try simp only [Act.put, List.setIfInBounds_toArray, List.set_cons_zero, List.set_cons_succ])
 go_cut [50] (fun v50 wc => ∃ (kq : Nat) (x50_2 : Bool), v50 = .bool x50_2 ∧ Aside0 (r22_Same.j0 kq x50_2 a0_0 a0_1 a0_2 a0_3 a0_4 a0_5 l0_6 a1_0 a1_1 a1_2 a1_3 a1_4 a1_5 l1_6 = some r) ∧ Aside0 (kq ≤ k) ∧ Aside0 (wc.heap[gb349]? = some (.cells #[.int .u64 a0_0, .int .u64 a0_1, .int .i64 a0_2, .int .i64 a0_3, .int .i64 a0_4, .int .i64 a0_5, (.slice A0_6 l0_6.length c0_6)] 32 (0, 0))) ∧ Aside0 (wc.heap[gb350]? = some (.cells #[.int .u64 a1_0, .int .u64 a1_1, .int .i64 a1_2, .int .i64 a1_3, .int .i64 a1_4, .int .i64 a1_5, (.slice A1_6 l1_6.length c1_6)] 32 (0, 0))) ∧ Aside0 (Below w.heap.size w wc))
 case first =>
  have H := HC3.out;clear HC3
  by_cases c6 : (!(a0_0 == a1_0) || (!(a0_1 == a1_1))) = true
  ·rw [if_pos c6] at H;have c6b0 : (!(a0_0 == a1_0) || (!(a0_1 == a1_1))) = true := c6;clear c6
   (first | rw [c6b0] | (simp only [i64_w, i32_w]; rw [c6b0]) | skip)
   have H' := am H;clear H;have hnb7 := NB349_350.out;have hnc7 := NB350_349.out;obtain ⟨hcz8_0, hcz8_1, hcz8_2, hcz8_3, hcz8_4, hcz8_5, hcz8_6, hfz8_0, hfz8_1, hfz8_2, hfz8_3, hfz8_4, hfz8_5, hfz8_6⟩ := g7 BK349;obtain ⟨hcz9_0, hcz9_1, hcz9_2, hcz9_3, hcz9_4, hcz9_5, hcz9_6, hfz9_0, hfz9_1, hfz9_2, hfz9_3, hfz9_4, hfz9_5, hfz9_6⟩ := g7 BK350
   go_wp2
   go_meet
   case rel => exact ⟨_, (true), (by first | rfl | (simp; done) | (simp [*]; done)), H', ⟨by first | omega | exact Nat.le_refl _⟩, ⟨pk BK349.out⟩, ⟨pk BK350.out⟩, ⟨pb HB⟩⟩
  ·rw [if_neg c6] at H
   have c6b0 : (!(a0_0 == a1_0) || (!(a0_1 == a1_1))) = false := by simpa using c6
   clear c6
   (first | rw [c6b0] | (simp only [i64_w, i32_w]; rw [c6b0]) | skip)
   by_cases c10 : a0_2 = a1_2
   ·rw [if_pos c10] at H;have c10b0 : (a0_2 == a1_2) = true := beq_iff_eq.mpr c10;have c10b1 : (a0_2 != a1_2) = false := bne_eq_false_iff_eq.mpr c10;clear c10
    by_cases c11 : a0_3 = a1_3
    ·rw [if_pos c11] at H;have c11b0 : (a0_3 == a1_3) = true := beq_iff_eq.mpr c11;have c11b1 : (a0_3 != a1_3) = false := bne_eq_false_iff_eq.mpr c11;clear c11
     by_cases c12 : a0_4 = a1_4
     ·rw [if_pos c12] at H;have c12b0 : (a0_4 == a1_4) = true := beq_iff_eq.mpr c12;have c12b1 : (a0_4 != a1_4) = false := bne_eq_false_iff_eq.mpr c12;clear c12
      by_cases c13 : a0_5 = a1_5
      ·rw [if_pos c13] at H;have c13b0 : (a0_5 == a1_5) = true := beq_iff_eq.mpr c13;have c13b1 : (a0_5 != a1_5) = false := bne_eq_false_iff_eq.mpr c13;clear c13;have H' := am H;clear H;have hnb14 := NB349_350.out;have hnc14 := NB350_349.out;obtain ⟨hcz15_0, hcz15_1, hcz15_2, hcz15_3, hcz15_4, hcz15_5, hcz15_6, hfz15_0, hfz15_1, hfz15_2, hfz15_3, hfz15_4, hfz15_5, hfz15_6⟩ := g7 BK349;obtain ⟨hcz16_0, hcz16_1, hcz16_2, hcz16_3, hcz16_4, hcz16_5, hcz16_6, hfz16_0, hfz16_1, hfz16_2, hfz16_3, hfz16_4, hfz16_5, hfz16_6⟩ := g7 BK350
       go_wp2
       go_meet
       case rel => exact ⟨_, (((l0_6.length : Int) != (l1_6.length : Int))), (by first | rfl | (simp; done) | (simp [*]; done)), H', ⟨by first | omega | exact Nat.le_refl _⟩, ⟨pk BK349.out⟩, ⟨pk BK350.out⟩, ⟨pb HB⟩⟩
      ·rw [if_neg c13] at H;have c13b0 : (a0_5 == a1_5) = false := beq_eq_false_iff_ne.mpr c13;have c13b1 : (a0_5 != a1_5) = true := bne_iff_ne.mpr c13;have H' := am H;clear H;have hnb17 := NB349_350.out;have hnc17 := NB350_349.out;obtain ⟨hcz18_0, hcz18_1, hcz18_2, hcz18_3, hcz18_4, hcz18_5, hcz18_6, hfz18_0, hfz18_1, hfz18_2, hfz18_3, hfz18_4, hfz18_5, hfz18_6⟩ := g7 BK349;obtain ⟨hcz19_0, hcz19_1, hcz19_2, hcz19_3, hcz19_4, hcz19_5, hcz19_6, hfz19_0, hfz19_1, hfz19_2, hfz19_3, hfz19_4, hfz19_5, hfz19_6⟩ := g7 BK350
       go_wp2
       go_meet
       case rel => exact ⟨_, (true), (by first | rfl | (simp; done) | (simp [*]; done)), H', ⟨by first | omega | exact Nat.le_refl _⟩, ⟨pk BK349.out⟩, ⟨pk BK350.out⟩, ⟨pb HB⟩⟩
     ·rw [if_neg c12] at H;have c12b0 : (a0_4 == a1_4) = false := beq_eq_false_iff_ne.mpr c12;have c12b1 : (a0_4 != a1_4) = true := bne_iff_ne.mpr c12;have H' := am H;clear H;have hnb20 := NB349_350.out;have hnc20 := NB350_349.out;obtain ⟨hcz21_0, hcz21_1, hcz21_2, hcz21_3, hcz21_4, hcz21_5, hcz21_6, hfz21_0, hfz21_1, hfz21_2, hfz21_3, hfz21_4, hfz21_5, hfz21_6⟩ := g7 BK349;obtain ⟨hcz22_0, hcz22_1, hcz22_2, hcz22_3, hcz22_4, hcz22_5, hcz22_6, hfz22_0, hfz22_1, hfz22_2, hfz22_3, hfz22_4, hfz22_5, hfz22_6⟩ := g7 BK350
      go_wp2
      go_meet
      case rel => exact ⟨_, (true), (by first | rfl | (simp; done) | (simp [*]; done)), H', ⟨by first | omega | exact Nat.le_refl _⟩, ⟨pk BK349.out⟩, ⟨pk BK350.out⟩, ⟨pb HB⟩⟩
    ·rw [if_neg c11] at H;have c11b0 : (a0_3 == a1_3) = false := beq_eq_false_iff_ne.mpr c11;have c11b1 : (a0_3 != a1_3) = true := bne_iff_ne.mpr c11;have H' := am H;clear H;have hnb23 := NB349_350.out;have hnc23 := NB350_349.out;obtain ⟨hcz24_0, hcz24_1, hcz24_2, hcz24_3, hcz24_4, hcz24_5, hcz24_6, hfz24_0, hfz24_1, hfz24_2, hfz24_3, hfz24_4, hfz24_5, hfz24_6⟩ := g7 BK349;obtain ⟨hcz25_0, hcz25_1, hcz25_2, hcz25_3, hcz25_4, hcz25_5, hcz25_6, hfz25_0, hfz25_1, hfz25_2, hfz25_3, hfz25_4, hfz25_5, hfz25_6⟩ := g7 BK350
     go_wp2
     go_meet
     case rel => exact ⟨_, (true), (by first | rfl | (simp; done) | (simp [*]; done)), H', ⟨by first | omega | exact Nat.le_refl _⟩, ⟨pk BK349.out⟩, ⟨pk BK350.out⟩, ⟨pb HB⟩⟩
   ·rw [if_neg c10] at H;have c10b0 : (a0_2 == a1_2) = false := beq_eq_false_iff_ne.mpr c10;have c10b1 : (a0_2 != a1_2) = true := bne_iff_ne.mpr c10;have H' := am H;clear H;have hnb26 := NB349_350.out;have hnc26 := NB350_349.out;obtain ⟨hcz27_0, hcz27_1, hcz27_2, hcz27_3, hcz27_4, hcz27_5, hcz27_6, hfz27_0, hfz27_1, hfz27_2, hfz27_3, hfz27_4, hfz27_5, hfz27_6⟩ := g7 BK349;obtain ⟨hcz28_0, hcz28_1, hcz28_2, hcz28_3, hcz28_4, hcz28_5, hcz28_6, hfz28_0, hfz28_1, hfz28_2, hfz28_3, hfz28_4, hfz28_5, hfz28_6⟩ := g7 BK350
    go_wp2
    go_meet
    case rel => exact ⟨_, (true), (by first | rfl | (simp; done) | (simp [*]; done)), H', ⟨by first | omega | exact Nat.le_refl _⟩, ⟨pk BK349.out⟩, ⟨pk BK350.out⟩, ⟨pb HB⟩⟩
 case rest =>
  clear HC3;(try clear c1);(try clear c2);(try clear p2);(try clear c6);(try clear c6b0);(try clear c7);(try clear c10);(try clear c10b0);(try clear c10b1);(try clear c11);(try clear c11b0);(try clear c11b1);(try clear c12);(try clear c12b0);(try clear c12b1);(try clear c13);(try clear c13b0);(try clear c13b1);(try clear c14);(try clear c17);(try clear c18);(try clear c20);(try clear c23);(try clear c26);(try clear hcz15_0 hcz15_1 hcz15_2 hcz15_3 hcz15_4 hcz15_5 hcz15_6);(try clear hcz16_0 hcz16_1 hcz16_2 hcz16_3 hcz16_4 hcz16_5 hcz16_6);(try clear hcz18_0 hcz18_1 hcz18_2 hcz18_3 hcz18_4 hcz18_5 hcz18_6);(try clear hcz19_0 hcz19_1 hcz19_2 hcz19_3 hcz19_4 hcz19_5 hcz19_6);(try clear hcz21_0 hcz21_1 hcz21_2 hcz21_3 hcz21_4 hcz21_5 hcz21_6);(try clear hcz22_0 hcz22_1 hcz22_2 hcz22_3 hcz22_4 hcz22_5 hcz22_6);(try clear hcz24_0 hcz24_1 hcz24_2 hcz24_3 hcz24_4 hcz24_5 hcz24_6);(try clear hcz25_0 hcz25_1 hcz25_2 hcz25_3 hcz25_4 hcz25_5 hcz25_6);(try clear hcz27_0 hcz27_1 hcz27_2 hcz27_3 hcz27_4 hcz27_5 hcz27_6);(try clear hcz28_0 hcz28_1 hcz28_2 hcz28_3 hcz28_4 hcz28_5 hcz28_6);(try clear hcz8_0 hcz8_1 hcz8_2 hcz8_3 hcz8_4 hcz8_5 hcz8_6);(try clear hcz9_0 hcz9_1 hcz9_2 hcz9_3 hcz9_4 hcz9_5 hcz9_6);(try clear hfz15_0 hfz15_1 hfz15_2 hfz15_3 hfz15_4 hfz15_5 hfz15_6);(try clear hfz16_0 hfz16_1 hfz16_2 hfz16_3 hfz16_4 hfz16_5 hfz16_6);(try clear hfz18_0 hfz18_1 hfz18_2 hfz18_3 hfz18_4 hfz18_5 hfz18_6);(try clear hfz19_0 hfz19_1 hfz19_2 hfz19_3 hfz19_4 hfz19_5 hfz19_6);(try clear hfz21_0 hfz21_1 hfz21_2 hfz21_3 hfz21_4 hfz21_5 hfz21_6);(try clear hfz22_0 hfz22_1 hfz22_2 hfz22_3 hfz22_4 hfz22_5 hfz22_6);(try clear hfz24_0 hfz24_1 hfz24_2 hfz24_3 hfz24_4 hfz24_5 hfz24_6);(try clear hfz25_0 hfz25_1 hfz25_2 hfz25_3 hfz25_4 hfz25_5 hfz25_6);(try clear hfz27_0 hfz27_1 hfz27_2 hfz27_3 hfz27_4 hfz27_5 hfz27_6);(try clear hfz28_0 hfz28_1 hfz28_2 hfz28_3 hfz28_4 hfz28_5 hfz28_6);(try clear hfz8_0 hfz8_1 hfz8_2 hfz8_3 hfz8_4 hfz8_5 hfz8_6);(try clear hfz9_0 hfz9_1 hfz9_2 hfz9_3 hfz9_4 hfz9_5 hfz9_6);obtain ⟨kq, x50_2, rfl, HA, HJ2, BK349, BK350, HB⟩ := hcut
  cases kq with
  | zero => exact absurd HA.out (by simp [r22_Same.j0])
  | succ kj2 =>
   have H := HA.out;clear HA
   simp only [r22_Same.j0] at H
   by_cases c29 : x50_2 = true
   ·subst c29
    have H1 : (some false) = some r := by rw [if_pos rfl] at H; exact H
    clear H;have H := H1;clear H1;obtain rfl := Option.some.inj H
    go_wp2
    go_ret
    exact ⟨by first | rfl | (simp [errW_none, errW_some] <;> rfl) | (simp [*, errW_none, errW_some] <;> rfl), pb HB⟩
   ·replace c29 := Bool.eq_false_iff.mpr c29;subst c29
    have H1 : (r22_Same.l0 kj2 0 a0_0 a0_1 a0_2 a0_3 a0_4 a0_5 l0_6 a1_0 a1_1 a1_2 a1_3 a1_4 a1_5 l1_6) = some r := by rw [if_neg (show ¬ (false = true) by decide)] at H; exact H
    clear H;have H := H1;clear H1;have H' := am H;clear H
    go_wp2
    go_loopg [5] kj2 (fun kq v5 w' => ∃ (x5_2 : Int), v5 = .int .i64 x5_2 ∧ Aside0 (r22_Same.l0 kq x5_2 a0_0 a0_1 a0_2 a0_3 a0_4 a0_5 l0_6 a1_0 a1_1 a1_2 a1_3 a1_4 a1_5 l1_6 = some r) ∧ Aside0 (kq ≤ kj2) ∧ Aside0 (w'.heap[gb349]? = some (.cells #[.int .u64 a0_0, .int .u64 a0_1, .int .i64 a0_2, .int .i64 a0_3, .int .i64 a0_4, .int .i64 a0_5, (.slice A0_6 l0_6.length c0_6)] 32 (0, 0))) ∧ Aside0 (w'.heap[gb350]? = some (.cells #[.int .u64 a1_0, .int .u64 a1_1, .int .i64 a1_2, .int .i64 a1_3, .int .i64 a1_4, .int .i64 a1_5, (.slice A1_6 l1_6.length c1_6)] 32 (0, 0))) ∧ Aside0 (Below w.heap.size w w'))
    case atStart => exact ⟨(0), (by first | rfl | (simp; done) | (simp [*]; done)), H', ⟨Nat.le_refl _⟩, ⟨pk BK349.out⟩, ⟨pk BK350.out⟩, ⟨pb HB⟩⟩
    case round =>
     clear H';(try clear c1);(try clear c2);(try clear p2);(try clear c6);(try clear c6b0);(try clear c7);(try clear c10);(try clear c10b0);(try clear c10b1);(try clear c11);(try clear c11b0);(try clear c11b1);(try clear c12);(try clear c12b0);(try clear c12b1);(try clear c13);(try clear c13b0);(try clear c13b1);(try clear c14);(try clear c17);(try clear c18);(try clear c20);(try clear c23);(try clear c26);(try clear c29);(try clear hcz15_0 hcz15_1 hcz15_2 hcz15_3 hcz15_4 hcz15_5 hcz15_6);(try clear hcz16_0 hcz16_1 hcz16_2 hcz16_3 hcz16_4 hcz16_5 hcz16_6);(try clear hcz18_0 hcz18_1 hcz18_2 hcz18_3 hcz18_4 hcz18_5 hcz18_6);(try clear hcz19_0 hcz19_1 hcz19_2 hcz19_3 hcz19_4 hcz19_5 hcz19_6);(try clear hcz21_0 hcz21_1 hcz21_2 hcz21_3 hcz21_4 hcz21_5 hcz21_6);(try clear hcz22_0 hcz22_1 hcz22_2 hcz22_3 hcz22_4 hcz22_5 hcz22_6);(try clear hcz24_0 hcz24_1 hcz24_2 hcz24_3 hcz24_4 hcz24_5 hcz24_6);(try clear hcz25_0 hcz25_1 hcz25_2 hcz25_3 hcz25_4 hcz25_5 hcz25_6);(try clear hcz27_0 hcz27_1 hcz27_2 hcz27_3 hcz27_4 hcz27_5 hcz27_6);(try clear hcz28_0 hcz28_1 hcz28_2 hcz28_3 hcz28_4 hcz28_5 hcz28_6);(try clear hcz8_0 hcz8_1 hcz8_2 hcz8_3 hcz8_4 hcz8_5 hcz8_6);(try clear hcz9_0 hcz9_1 hcz9_2 hcz9_3 hcz9_4 hcz9_5 hcz9_6);(try clear hfz15_0 hfz15_1 hfz15_2 hfz15_3 hfz15_4 hfz15_5 hfz15_6);(try clear hfz16_0 hfz16_1 hfz16_2 hfz16_3 hfz16_4 hfz16_5 hfz16_6);(try clear hfz18_0 hfz18_1 hfz18_2 hfz18_3 hfz18_4 hfz18_5 hfz18_6);(try clear hfz19_0 hfz19_1 hfz19_2 hfz19_3 hfz19_4 hfz19_5 hfz19_6);(try clear hfz21_0 hfz21_1 hfz21_2 hfz21_3 hfz21_4 hfz21_5 hfz21_6);(try clear hfz22_0 hfz22_1 hfz22_2 hfz22_3 hfz22_4 hfz22_5 hfz22_6);(try clear hfz24_0 hfz24_1 hfz24_2 hfz24_3 hfz24_4 hfz24_5 hfz24_6);(try clear hfz25_0 hfz25_1 hfz25_2 hfz25_3 hfz25_4 hfz25_5 hfz25_6);(try clear hfz27_0 hfz27_1 hfz27_2 hfz27_3 hfz27_4 hfz27_5 hfz27_6);(try clear hfz28_0 hfz28_1 hfz28_2 hfz28_3 hfz28_4 hfz28_5 hfz28_6);(try clear hfz8_0 hfz8_1 hfz8_2 hfz8_3 hfz8_4 hfz8_5 hfz8_6);(try clear hfz9_0 hfz9_1 hfz9_2 hfz9_3 hfz9_4 hfz9_5 hfz9_6);(try clear p2);obtain ⟨x5_2, rfl, HA, HK2, BK349, BK350, HB⟩ := hrel
     cases gk with
     | zero => exact absurd HA.out (by simp [r22_Same.l0])
     | succ k2 =>
      have H := HA.out;clear HA
      simp only [r22_Same.l0] at H
      by_cases c30 : x5_2 < (l0_6.length : Int)
      ·rw [if_pos c30] at H;have c30b0 : decide (x5_2 < (l0_6.length : Int)) = true := decide_eq_true c30;clear c30
       by_cases c31 : 0 ≤ x5_2
       ·rw [if_pos c31] at H;have c31b0 : decide (0 ≤ x5_2) = true := decide_eq_true c31;clear c31
        by_cases c32 : x5_2 < (l1_6.length : Int)
        ·rw [if_pos c32] at H;have c32b0 : decide (x5_2 < (l1_6.length : Int)) = true := decide_eq_true c32;clear c32;have HC33 := am H;clear H;have hnb34 := NB349_350.out;have hnc34 := NB350_349.out;obtain ⟨hcz35_0, hcz35_1, hcz35_2, hcz35_3, hcz35_4, hcz35_5, hcz35_6, hfz35_0, hfz35_1, hfz35_2, hfz35_3, hfz35_4, hfz35_5, hfz35_6⟩ := g7 BK349
         try go_wp2
         replace BK349 := am (blk_drew BK349.out);replace BK350 := am (blk_drew BK350.out);replace HB := am (below_drew1 HB.out);have p351 : 0 ≤ (x5_2 : Int) := of_decide_eq_true (by first | (with_reducible assumption) | assumption);have q351 : x5_2 < (l0_6.length : Int) := of_decide_eq_true (by first | (with_reducible assumption) | assumption);obtain ⟨ad351, A351_1, c351_1, e351, hx351_0, hx351_1, hl351_1, hi351_1⟩ := at_T73 HR0_6.out x5_2 p351 q351;have hw351_1 := hx351_1;have hw351_0 := hx351_0;cases e351;replace hx351_0 := (HB.out.cell (World.block_lt_of_cell? w _ hx351_0)).trans hx351_0;replace hx351_1 := (HB.out.cell (World.block_lt_of_cell? w _ hx351_1)).trans hx351_1;have HR351_1 := am hi351_1;have HC351_1 := am hl351_1;clear hi351_1 hl351_1;replace p351 := eq_true p351;replace q351 := eq_true q351;have p352 : 0 ≤ (x5_2 : Int) := of_decide_eq_true (by first | (with_reducible assumption) | assumption);have q352 : x5_2 < (l1_6.length : Int) := of_decide_eq_true (by first | (with_reducible assumption) | assumption);obtain ⟨ad352, A352_1, c352_1, e352, hx352_0, hx352_1, hl352_1, hi352_1⟩ := at_T73 HR1_6.out x5_2 p352 q352;have hw352_1 := hx352_1;have hw352_0 := hx352_0;cases e352;replace hx352_0 := (HB.out.cell (World.block_lt_of_cell? w _ hx352_0)).trans hx352_0;replace hx352_1 := (HB.out.cell (World.block_lt_of_cell? w _ hx352_1)).trans hx352_1;have HR352_1 := am hi352_1;have HC352_1 := am hl352_1;clear hi352_1 hl352_1;replace p352 := eq_true p352;replace q352 := eq_true q352
         refine start_ (n := 14) (S := fun w' => w'.cell? ⟨gb349, 0, none⟩ = some (.int .u64 a0_0) ∧ w'.cell? ⟨gb349, 1, none⟩ = some (.int .u64 a0_1) ∧ w'.cell? ⟨gb349, 2, none⟩ = some (.int .i64 a0_2) ∧ w'.cell? ⟨gb349, 3, none⟩ = some (.int .i64 a0_3) ∧ w'.cell? ⟨gb349, 4, none⟩ = some (.int .i64 a0_4) ∧ w'.cell? ⟨gb349, 5, none⟩ = some (.int .i64 a0_5) ∧ w'.cell? ⟨gb349, 6, none⟩ = some (.slice (some ad351) l0_6.length c0_6) ∧ w'.cell? ⟨gb350, 0, none⟩ = some (.int .u64 a1_0) ∧ w'.cell? ⟨gb350, 1, none⟩ = some (.int .u64 a1_1) ∧ w'.cell? ⟨gb350, 2, none⟩ = some (.int .i64 a1_2) ∧ w'.cell? ⟨gb350, 3, none⟩ = some (.int .i64 a1_3) ∧ w'.cell? ⟨gb350, 4, none⟩ = some (.int .i64 a1_4) ∧ w'.cell? ⟨gb350, 5, none⟩ = some (.int .i64 a1_5) ∧ w'.cell? ⟨gb350, 6, none⟩ = some (.slice (some ad352) l1_6.length c1_6) ∧ w'.cell? (ad351.add ((x5_2).toNat * 2)) = some (.int .i64 ((rd_T73 l0_6 x5_2).f0)) ∧ w'.cell? ⟨(ad351.add ((x5_2).toNat * 2)).block, (ad351.add ((x5_2).toNat * 2)).off + 1, none⟩ = some (.slice A351_1 ((rd_T73 l0_6 x5_2).f1).length c351_1) ∧ w'.cell? (ad352.add ((x5_2).toNat * 2)) = some (.int .i64 ((rd_T73 l1_6 x5_2).f0)) ∧ w'.cell? ⟨(ad352.add ((x5_2).toNat * 2)).block, (ad352.add ((x5_2).toNat * 2)).off + 1, none⟩ = some (.slice A352_1 ((rd_T73 l1_6 x5_2).f1).length c352_1)) (ds := []) #[false, false, false, false, false, false, false, false, false, false, false, false, false, false] (by kernel_rfl) rfl rfl ⟨ce BK349 0, ce BK349 1, ce BK349 2, ce BK349 3, ce BK349 4, ce BK349 5, ce BK349 6, ce BK350 0, ce BK350 1, ce BK350 2, ce BK350 3, ce BK350 4, ce BK350 5, ce BK350 6, ((HB.out.cell (World.block_lt_of_cell? w _ hw351_0)).trans hw351_0), ((HB.out.cell (World.block_lt_of_cell? w _ hw351_1)).trans hw351_1), ((HB.out.cell (World.block_lt_of_cell? w _ hw352_0)).trans hw352_0), ((HB.out.cell (World.block_lt_of_cell? w _ hw352_1)).trans hw352_1)⟩ (fun hHeld => ?_); refine with_tabW r22_Same.tab6 r22_Same.bits6 (fun HT_ HW_ => ?_)
         generalize wr.drew = w36 at BK349 BK350 HB HR351_1 HR352_1 hx351_0 hx351_1 hx352_0 hx352_1 hHeld ⊢
         refine pu 0 ?_
         refine pu 2 ?_
         refine pu 5 ?_
         refine pu 7 ?_
         refine ta 1 hHeld ?_
         refine pu 3 ?_
         refine ta 4 hHeld ?_
         refine ta 6 hHeld ?_
         refine pu 8 ?_
         refine ta 9 hHeld ?_
         refine join_ (σ := Nat × Nat) 2 #[true, true, true, true, true, true, true, true, true, true, true, true, false, false] (fun s_ => [(6, .pointer (some ⟨s_.1, 0, none⟩)), (7, .pointer (some ⟨s_.2, 0, none⟩))]) (fun s_ w' => (w'.cell? ⟨gb349, 0, none⟩ = some (.int .u64 a0_0) ∧ w'.cell? ⟨gb349, 1, none⟩ = some (.int .u64 a0_1) ∧ w'.cell? ⟨gb349, 2, none⟩ = some (.int .i64 a0_2) ∧ w'.cell? ⟨gb349, 3, none⟩ = some (.int .i64 a0_3) ∧ w'.cell? ⟨gb349, 4, none⟩ = some (.int .i64 a0_4) ∧ w'.cell? ⟨gb349, 5, none⟩ = some (.int .i64 a0_5) ∧ w'.cell? ⟨gb349, 6, none⟩ = some (.slice (some ad351) l0_6.length c0_6) ∧ w'.cell? ⟨gb350, 0, none⟩ = some (.int .u64 a1_0) ∧ w'.cell? ⟨gb350, 1, none⟩ = some (.int .u64 a1_1) ∧ w'.cell? ⟨gb350, 2, none⟩ = some (.int .i64 a1_2) ∧ w'.cell? ⟨gb350, 3, none⟩ = some (.int .i64 a1_3) ∧ w'.cell? ⟨gb350, 4, none⟩ = some (.int .i64 a1_4) ∧ w'.cell? ⟨gb350, 5, none⟩ = some (.int .i64 a1_5) ∧ w'.cell? ⟨gb350, 6, none⟩ = some (.slice (some ad352) l1_6.length c1_6) ∧ w'.cell? (ad351.add ((x5_2).toNat * 2)) = some (.int .i64 ((rd_T73 l0_6 x5_2).f0)) ∧ w'.cell? ⟨(ad351.add ((x5_2).toNat * 2)).block, (ad351.add ((x5_2).toNat * 2)).off + 1, none⟩ = some (.slice A351_1 ((rd_T73 l0_6 x5_2).f1).length c351_1) ∧ w'.cell? (ad352.add ((x5_2).toNat * 2)) = some (.int .i64 ((rd_T73 l1_6 x5_2).f0)) ∧ w'.cell? ⟨(ad352.add ((x5_2).toNat * 2)).block, (ad352.add ((x5_2).toNat * 2)).off + 1, none⟩ = some (.slice A352_1 ((rd_T73 l1_6 x5_2).f1).length c352_1)) ∧ (w'.heap[gb349]? = some (.cells #[.int .u64 a0_0, .int .u64 a0_1, .int .i64 a0_2, .int .i64 a0_3, .int .i64 a0_4, .int .i64 a0_5, .slice (some ad351) l0_6.length c0_6] 32 (0, 0))) ∧ (w'.heap[gb350]? = some (.cells #[.int .u64 a1_0, .int .u64 a1_1, .int .i64 a1_2, .int .i64 a1_3, .int .i64 a1_4, .int .i64 a1_5, .slice (some ad352) l1_6.length c1_6] 32 (0, 0))) ∧ (w'.heap[s_.1]? = some (.cells #[.int .i64 0, .slice none 0 0] 73 (0, 0))) ∧ (w'.heap[s_.2]? = some (.cells #[.int .i64 0, .slice none 0 0] 73 (0, 0))) ∧ (w.heap.size ≤ s_.1) ∧ (w.heap.size ≤ s_.1) ∧ (gb349 ≠ s_.1) ∧ (s_.1 ≠ gb349) ∧ (gb350 ≠ s_.1) ∧ (s_.1 ≠ gb350) ∧ (s_.2 ≠ s_.1) ∧ (s_.1 ≠ s_.2) ∧ (w.heap.size ≤ s_.2) ∧ (w.heap.size ≤ s_.2) ∧ (gb349 ≠ s_.2) ∧ (s_.2 ≠ gb349) ∧ (gb350 ≠ s_.2) ∧ (s_.2 ≠ gb350) ∧ (Below w.heap.size w w')) ?_ ?_
         rotate_left
         ·intro hCont
          refine two_ (i := 10) (j := 11) (Ni := some 6) (Nj := some 7) #[true, true, true, true, true, true, true, true, true, true, true, false, false, false] #[true, true, true, true, true, true, true, true, true, true, false, true, false, false] rfl rfl rfl rfl (two_of HT_.out (by kernel_rfl)) (by decide) (by decide) (fun K hK => ?_) (fun K hK => ?_)
          ·skip
           refine bx 6 #[.int .i64 0, .slice none 0 0] 73 ?_
           intro gb353 hg w37 hbox hb
           have BK353 := am (hbox);have GW353 := gq hg HB;have GE353 := gq hg HB;replace HB := lb HB hb;obtain ⟨NB349_353, NB353_349, -, -⟩ := pm hg BK349;replace BK349 := kb BK349 hb;obtain ⟨NB350_353, NB353_350, -, -⟩ := pm hg BK350;replace BK350 := kb BK350 hb;clear hb hbox hg
           refine hK.out _ _ ⟨ce BK349 0, ce BK349 1, ce BK349 2, ce BK349 3, ce BK349 4, ce BK349 5, ce BK349 6, ce BK350 0, ce BK350 1, ce BK350 2, ce BK350 3, ce BK350 4, ce BK350 5, ce BK350 6, ((HB.out.cell (World.block_lt_of_cell? w _ hw351_0)).trans hw351_0), ((HB.out.cell (World.block_lt_of_cell? w _ hw351_1)).trans hw351_1), ((HB.out.cell (World.block_lt_of_cell? w _ hw352_0)).trans hw352_0), ((HB.out.cell (World.block_lt_of_cell? w _ hw352_1)).trans hw352_1)⟩ (fun hHeld => ?_)
           clear hK K
           refine nm ?_
           refine on1 11 (fun K hK => ?_)
           refine bx 7 #[.int .i64 0, .slice none 0 0] 73 ?_
           intro gb354 hg w38 hbox hb
           have BK354 := am (hbox);have GW354 := gq hg HB;have GE354 := gq hg HB;replace HB := lb HB hb;obtain ⟨NB349_354, NB354_349, -, -⟩ := pm hg BK349;replace BK349 := kb BK349 hb;obtain ⟨NB350_354, NB354_350, -, -⟩ := pm hg BK350;replace BK350 := kb BK350 hb;obtain ⟨NB353_354, NB354_353, -, -⟩ := pm hg BK353;replace BK353 := kb BK353 hb;clear hb hbox hg
           refine hK.out _ _ ⟨ce BK349 0, ce BK349 1, ce BK349 2, ce BK349 3, ce BK349 4, ce BK349 5, ce BK349 6, ce BK350 0, ce BK350 1, ce BK350 2, ce BK350 3, ce BK350 4, ce BK350 5, ce BK350 6, ((HB.out.cell (World.block_lt_of_cell? w _ hw351_0)).trans hw351_0), ((HB.out.cell (World.block_lt_of_cell? w _ hw351_1)).trans hw351_1), ((HB.out.cell (World.block_lt_of_cell? w _ hw352_0)).trans hw352_0), ((HB.out.cell (World.block_lt_of_cell? w _ hw352_1)).trans hw352_1)⟩ (fun hHeld => ?_)
           clear hK K
           refine nm ?_
           exact nj (hCont (gb353, gb354) _ ⟨hHeld, (pk BK349.out), (pk BK350.out), (pk BK353.out), (pk BK354.out), GW353.out, GE353.out, NB349_353.out, NB353_349.out, NB350_353.out, NB353_350.out, NB354_353.out, NB353_354.out, GW354.out, GE354.out, NB349_354.out, NB354_349.out, NB350_354.out, NB354_350.out, (pb HB)⟩)
          ·skip
           refine bx 7 #[.int .i64 0, .slice none 0 0] 73 ?_
           intro gb354 hg w37 hbox hb
           have BK354 := am (hbox);have GW354 := gq hg HB;have GE354 := gq hg HB;replace HB := lb HB hb;obtain ⟨NB349_354, NB354_349, -, -⟩ := pm hg BK349;replace BK349 := kb BK349 hb;obtain ⟨NB350_354, NB354_350, -, -⟩ := pm hg BK350;replace BK350 := kb BK350 hb;clear hb hbox hg
           refine hK.out _ _ ⟨ce BK349 0, ce BK349 1, ce BK349 2, ce BK349 3, ce BK349 4, ce BK349 5, ce BK349 6, ce BK350 0, ce BK350 1, ce BK350 2, ce BK350 3, ce BK350 4, ce BK350 5, ce BK350 6, ((HB.out.cell (World.block_lt_of_cell? w _ hw351_0)).trans hw351_0), ((HB.out.cell (World.block_lt_of_cell? w _ hw351_1)).trans hw351_1), ((HB.out.cell (World.block_lt_of_cell? w _ hw352_0)).trans hw352_0), ((HB.out.cell (World.block_lt_of_cell? w _ hw352_1)).trans hw352_1)⟩ (fun hHeld => ?_)
           clear hK K
           refine nm ?_
           refine on1 10 (fun K hK => ?_)
           refine bx 6 #[.int .i64 0, .slice none 0 0] 73 ?_
           intro gb353 hg w38 hbox hb
           have BK353 := am (hbox);have GW353 := gq hg HB;have GE353 := gq hg HB;replace HB := lb HB hb;obtain ⟨NB349_353, NB353_349, -, -⟩ := pm hg BK349;replace BK349 := kb BK349 hb;obtain ⟨NB350_353, NB353_350, -, -⟩ := pm hg BK350;replace BK350 := kb BK350 hb;obtain ⟨NB354_353, NB353_354, -, -⟩ := pm hg BK354;replace BK354 := kb BK354 hb;clear hb hbox hg
           refine hK.out _ _ ⟨ce BK349 0, ce BK349 1, ce BK349 2, ce BK349 3, ce BK349 4, ce BK349 5, ce BK349 6, ce BK350 0, ce BK350 1, ce BK350 2, ce BK350 3, ce BK350 4, ce BK350 5, ce BK350 6, ((HB.out.cell (World.block_lt_of_cell? w _ hw351_0)).trans hw351_0), ((HB.out.cell (World.block_lt_of_cell? w _ hw351_1)).trans hw351_1), ((HB.out.cell (World.block_lt_of_cell? w _ hw352_0)).trans hw352_0), ((HB.out.cell (World.block_lt_of_cell? w _ hw352_1)).trans hw352_1)⟩ (fun hHeld => ?_)
           clear hK K
           refine nm ?_
           exact nj (hCont (gb353, gb354) _ ⟨hHeld, (pk BK349.out), (pk BK350.out), (pk BK353.out), (pk BK354.out), GW353.out, GE353.out, NB349_353.out, NB353_349.out, NB350_353.out, NB353_350.out, NB354_353.out, NB353_354.out, GW354.out, GE354.out, NB349_354.out, NB354_349.out, NB350_354.out, NB354_350.out, (pb HB)⟩)
         rintro ⟨gb353, gb354⟩ w39 ⟨hS_, h0_, h1_, h2_, h3_, h4_, h5_, h6_, h7_, h8_, h9_, h10_, h11_, h12_, h13_, h14_, h15_, h16_, h17_, h18_⟩
         (try dsimp only at h0_ h1_ h2_ h3_ h4_ h5_ h6_ h7_ h8_ h9_ h10_ h11_ h12_ h13_ h14_ h15_ h16_ h17_ h18_);replace BK349 := am h0_;replace BK350 := am h1_;have BK353 := am h2_;have BK354 := am h3_;have GW353 := am h4_;have GE353 := am h5_;have NB349_353 := am h6_;have NB353_349 := am h7_;have NB350_353 := am h8_;have NB353_350 := am h9_;have NB354_353 := am h10_;have NB353_354 := am h11_;have GW354 := am h12_;have GE354 := am h13_;have NB349_354 := am h14_;have NB354_349 := am h15_;have NB350_354 := am h16_;have NB354_350 := am h17_;replace HB := am h18_;clear h0_ h1_ h2_ h3_ h4_ h5_ h6_ h7_ h8_ h9_ h10_ h11_ h12_ h13_ h14_ h15_ h16_ h17_ h18_;have hHeld : w39.cell? ⟨gb349, 0, none⟩ = some (.int .u64 a0_0) ∧ w39.cell? ⟨gb349, 1, none⟩ = some (.int .u64 a0_1) ∧ w39.cell? ⟨gb349, 2, none⟩ = some (.int .i64 a0_2) ∧ w39.cell? ⟨gb349, 3, none⟩ = some (.int .i64 a0_3) ∧ w39.cell? ⟨gb349, 4, none⟩ = some (.int .i64 a0_4) ∧ w39.cell? ⟨gb349, 5, none⟩ = some (.int .i64 a0_5) ∧ w39.cell? ⟨gb349, 6, none⟩ = some (.slice (some ad351) l0_6.length c0_6) ∧ w39.cell? ⟨gb350, 0, none⟩ = some (.int .u64 a1_0) ∧ w39.cell? ⟨gb350, 1, none⟩ = some (.int .u64 a1_1) ∧ w39.cell? ⟨gb350, 2, none⟩ = some (.int .i64 a1_2) ∧ w39.cell? ⟨gb350, 3, none⟩ = some (.int .i64 a1_3) ∧ w39.cell? ⟨gb350, 4, none⟩ = some (.int .i64 a1_4) ∧ w39.cell? ⟨gb350, 5, none⟩ = some (.int .i64 a1_5) ∧ w39.cell? ⟨gb350, 6, none⟩ = some (.slice (some ad352) l1_6.length c1_6) ∧ w39.cell? (ad351.add ((x5_2).toNat * 2)) = some (.int .i64 ((rd_T73 l0_6 x5_2).f0)) ∧ w39.cell? ⟨(ad351.add ((x5_2).toNat * 2)).block, (ad351.add ((x5_2).toNat * 2)).off + 1, none⟩ = some (.slice A351_1 ((rd_T73 l0_6 x5_2).f1).length c351_1) ∧ w39.cell? (ad352.add ((x5_2).toNat * 2)) = some (.int .i64 ((rd_T73 l1_6 x5_2).f0)) ∧ w39.cell? ⟨(ad352.add ((x5_2).toNat * 2)).block, (ad352.add ((x5_2).toNat * 2)).off + 1, none⟩ = some (.slice A352_1 ((rd_T73 l1_6 x5_2).f1).length c352_1) := hS_
         refine norm_ (a' := ?_) ?_ ?_
         rotate_left
         ·simp only [putAll, Act.put, List.setIfInBounds_toArray, List.set_cons_zero, List.set_cons_succ]
          rfl
         refine one_ (i := 12) (N := none) #[true, true, true, true, true, true, true, true, true, true, true, true, true, false] rfl rfl (one_of HT_.out (by kernel_rfl)) (by decide) (fun K hK => ?_)
         have hs40 : w39.cell? ⟨gb353, 0, none⟩ = some (.int .i64 0) := ce BK353 0;have hfs40 := blk_frozen BK353.out 0;have hns40_0 := NB349_353.out;have hns40_1 := NB350_353.out;have hns40_3 := NB354_353.out;have hms40_0 := NB353_349.out;have hms40_1 := NB353_350.out;have hms40_3 := NB353_354.out;have hs41 : w39.cell? ⟨gb353, 1, none⟩ = some (.slice none 0 0) := ce BK353 1;have hfs41 := blk_frozen BK353.out 1;have hns41_0 := NB349_353.out;have hns41_1 := NB350_353.out;have hns41_3 := NB354_353.out;have hms41_0 := NB353_349.out;have hms41_1 := NB353_350.out;have hms41_3 := NB353_354.out
         refine skip_ (w1 := ?_) (by rfl) rfl ?_ ?_
         rotate_left
         ·go_simp
          rfl
         refine hK.out _ _ ⟨(q2 NB349_353.out hHeld.1), (q2 NB349_353.out hHeld.2.1), (q2 NB349_353.out hHeld.2.2.1), (q2 NB349_353.out hHeld.2.2.2.1), (q2 NB349_353.out hHeld.2.2.2.2.1), (q2 NB349_353.out hHeld.2.2.2.2.2.1), (q2 NB349_353.out hHeld.2.2.2.2.2.2.1), (q2 NB350_353.out hHeld.2.2.2.2.2.2.2.1), (q2 NB350_353.out hHeld.2.2.2.2.2.2.2.2.1), (q2 NB350_353.out hHeld.2.2.2.2.2.2.2.2.2.1), (q2 NB350_353.out hHeld.2.2.2.2.2.2.2.2.2.2.1), (q2 NB350_353.out hHeld.2.2.2.2.2.2.2.2.2.2.2.1), (q2 NB350_353.out hHeld.2.2.2.2.2.2.2.2.2.2.2.2.1), (q2 NB350_353.out hHeld.2.2.2.2.2.2.2.2.2.2.2.2.2.1), (q2 (al hw351_0 GW353) hHeld.2.2.2.2.2.2.2.2.2.2.2.2.2.2.1), (q2 (al hw351_1 GW353) hHeld.2.2.2.2.2.2.2.2.2.2.2.2.2.2.2.1), (q2 (al hw352_0 GW353) hHeld.2.2.2.2.2.2.2.2.2.2.2.2.2.2.2.2.1), (q2 (al hw352_1 GW353) hHeld.2.2.2.2.2.2.2.2.2.2.2.2.2.2.2.2.2)⟩ (fun hHeld => ?_)
         clear hK K
         refine one_ (i := 13) (N := none) #[true, true, true, true, true, true, true, true, true, true, true, true, true, true] rfl rfl (one_of HT_.out (by kernel_rfl)) (by decide) (fun K hK => ?_)
         have hs42 : w39.cell? ⟨gb354, 0, none⟩ = some (.int .i64 0) := ce BK354 0;have hfs42 := blk_frozen BK354.out 0;have hns42_0 := NB349_354.out;have hns42_1 := NB350_354.out;have hns42_2 := NB353_354.out;have hms42_0 := NB354_349.out;have hms42_1 := NB354_350.out;have hms42_2 := NB354_353.out;have hs43 : w39.cell? ⟨gb354, 1, none⟩ = some (.slice none 0 0) := ce BK354 1;have hfs43 := blk_frozen BK354.out 1;have hns43_0 := NB349_354.out;have hns43_1 := NB350_354.out;have hns43_2 := NB353_354.out;have hms43_0 := NB354_349.out;have hms43_1 := NB354_350.out;have hms43_2 := NB354_353.out
         refine skip_ (w1 := ?_) (by rfl) rfl ?_ ?_
         rotate_left
         ·go_simp
          rfl
         refine hK.out _ _ ⟨(q2 NB349_354.out hHeld.1), (q2 NB349_354.out hHeld.2.1), (q2 NB349_354.out hHeld.2.2.1), (q2 NB349_354.out hHeld.2.2.2.1), (q2 NB349_354.out hHeld.2.2.2.2.1), (q2 NB349_354.out hHeld.2.2.2.2.2.1), (q2 NB349_354.out hHeld.2.2.2.2.2.2.1), (q2 NB350_354.out hHeld.2.2.2.2.2.2.2.1), (q2 NB350_354.out hHeld.2.2.2.2.2.2.2.2.1), (q2 NB350_354.out hHeld.2.2.2.2.2.2.2.2.2.1), (q2 NB350_354.out hHeld.2.2.2.2.2.2.2.2.2.2.1), (q2 NB350_354.out hHeld.2.2.2.2.2.2.2.2.2.2.2.1), (q2 NB350_354.out hHeld.2.2.2.2.2.2.2.2.2.2.2.2.1), (q2 NB350_354.out hHeld.2.2.2.2.2.2.2.2.2.2.2.2.2.1), (q2 (al hw351_0 GW354) hHeld.2.2.2.2.2.2.2.2.2.2.2.2.2.2.1), (q2 (al hw351_1 GW354) hHeld.2.2.2.2.2.2.2.2.2.2.2.2.2.2.2.1), (q2 (al hw352_0 GW354) hHeld.2.2.2.2.2.2.2.2.2.2.2.2.2.2.2.2.1), (q2 (al hw352_1 GW354) hHeld.2.2.2.2.2.2.2.2.2.2.2.2.2.2.2.2.2)⟩ (fun hHeld => ?_)
         clear hK K
         refine done_ (done_of HT_.out (by kernel_rfl)) ?_
         go_upto_region 7 with (fail)
         go_cut [81] (fun v81 wc => ∃ (kq : Nat) (x81_32 : Bool), v81 = .bool x81_32 ∧ Aside0 (r22_Same.j2 kq x5_2 x81_32 a0_0 a0_1 a0_2 a0_3 a0_4 a0_5 l0_6 a1_0 a1_1 a1_2 a1_3 a1_4 a1_5 l1_6 ((rd_T73 l0_6 x5_2).f0) ((rd_T73 l0_6 x5_2).f1) ((rd_T73 l1_6 x5_2).f0) ((rd_T73 l1_6 x5_2).f1) = some r) ∧ Aside0 (kq ≤ k2) ∧ Aside0 (wc.heap[gb349]? = some (.cells #[.int .u64 a0_0, .int .u64 a0_1, .int .i64 a0_2, .int .i64 a0_3, .int .i64 a0_4, .int .i64 a0_5, (.slice (some ad351) l0_6.length c0_6)] 32 (0, 0))) ∧ Aside0 (wc.heap[gb350]? = some (.cells #[.int .u64 a1_0, .int .u64 a1_1, .int .i64 a1_2, .int .i64 a1_3, .int .i64 a1_4, .int .i64 a1_5, (.slice (some ad352) l1_6.length c1_6)] 32 (0, 0))) ∧ Aside0 (wc.heap[gb353]? = some (.cells #[.int .i64 ((rd_T73 l0_6 x5_2).f0), (.slice A351_1 ((rd_T73 l0_6 x5_2).f1).length c351_1)] 73 (0, 0))) ∧ Aside0 (wc.heap[gb354]? = some (.cells #[.int .i64 ((rd_T73 l1_6 x5_2).f0), (.slice A352_1 ((rd_T73 l1_6 x5_2).f1).length c352_1)] 73 (0, 0))) ∧ Aside0 (Below w.heap.size w wc))
         case first =>
          have H := HC33.out;clear HC33
          by_cases c44 : ((rd_T73 l0_6 x5_2).f0) = ((rd_T73 l1_6 x5_2).f0)
          ·rw [if_pos c44] at H;have c44b0 : (((rd_T73 l0_6 x5_2).f0) == ((rd_T73 l1_6 x5_2).f0)) = true := beq_iff_eq.mpr c44;have c44b1 : (((rd_T73 l0_6 x5_2).f0) != ((rd_T73 l1_6 x5_2).f0)) = false := bne_eq_false_iff_eq.mpr c44;clear c44
           (first | rw [c44b0] | (simp only [i64_w, i32_w]; rw [c44b0]) | skip)
           have H' := am H;clear H;have hnb45 := NB353_349.out;have hnc45 := NB349_353.out;have hnb46 := NB353_350.out;have hnc46 := NB350_353.out;have hnb47 := NB353_354.out;have hnc47 := NB354_353.out;obtain ⟨hcz48_0, hcz48_1, hfz48_0, hfz48_1⟩ := g2 BK353;have hnb49 := NB354_349.out;have hnc49 := NB349_354.out;have hnb50 := NB354_350.out;have hnc50 := NB350_354.out;obtain ⟨hcz51_0, hcz51_1, hfz51_0, hfz51_1⟩ := g2 BK354
           go_wp2
           go_meet
           case rel => exact ⟨_, (((((rd_T73 l0_6 x5_2).f1).length : Int) != (((rd_T73 l1_6 x5_2).f1).length : Int))), (by first | rfl | (simp; done) | (simp [*]; done)), H', ⟨by have := HJ2.out; have := HK2.out; first | omega | exact Nat.le_refl _⟩, ⟨by refine pk ?_; refine blk_far ?_ NB349_354.out _; refine pk ?_; refine blk_far ?_ NB349_354.out _; refine pk ?_; refine blk_far ?_ NB349_353.out _; refine pk ?_; refine blk_far ?_ NB349_353.out _; refine pk ?_; exact BK349.out⟩, ⟨by refine pk ?_; refine blk_far ?_ NB350_354.out _; refine pk ?_; refine blk_far ?_ NB350_354.out _; refine pk ?_; refine blk_far ?_ NB350_353.out _; refine pk ?_; refine blk_far ?_ NB350_353.out _; refine pk ?_; exact BK350.out⟩, ⟨by refine pk ?_; refine blk_far ?_ NB353_354.out _; refine pk ?_; refine blk_far ?_ NB353_354.out _; refine pk ?_; refine blk_put (cs := #[.int .i64 ((rd_T73 l0_6 x5_2).f0), .slice none 0 0]) ?_ 1 _ rfl; refine pk ?_; refine blk_put (cs := #[.int .i64 0, .slice none 0 0]) ?_ 0 _ rfl; refine pk ?_; exact BK353.out⟩, ⟨by refine pk ?_; refine blk_put (cs := #[.int .i64 ((rd_T73 l1_6 x5_2).f0), .slice none 0 0]) ?_ 1 _ rfl; refine pk ?_; refine blk_put (cs := #[.int .i64 0, .slice none 0 0]) ?_ 0 _ rfl; refine pk ?_; refine blk_far ?_ NB354_353.out _; refine pk ?_; refine blk_far ?_ NB354_353.out _; refine pk ?_; exact BK354.out⟩, ⟨pb HB⟩⟩
          ·rw [if_neg c44] at H;have c44b0 : (((rd_T73 l0_6 x5_2).f0) == ((rd_T73 l1_6 x5_2).f0)) = false := beq_eq_false_iff_ne.mpr c44;have c44b1 : (((rd_T73 l0_6 x5_2).f0) != ((rd_T73 l1_6 x5_2).f0)) = true := bne_iff_ne.mpr c44
           (first | rw [c44b0] | (simp only [i64_w, i32_w]; rw [c44b0]) | skip)
           have H' := am H;clear H;have hnb52 := NB353_349.out;have hnc52 := NB349_353.out;have hnb53 := NB353_350.out;have hnc53 := NB350_353.out;have hnb54 := NB353_354.out;have hnc54 := NB354_353.out;obtain ⟨hcz55_0, hcz55_1, hfz55_0, hfz55_1⟩ := g2 BK353;have hnb56 := NB354_349.out;have hnc56 := NB349_354.out;have hnb57 := NB354_350.out;have hnc57 := NB350_354.out;obtain ⟨hcz58_0, hcz58_1, hfz58_0, hfz58_1⟩ := g2 BK354
           go_wp2
           go_meet
           case rel => exact ⟨_, (true), (by first | rfl | (simp; done) | (simp [*]; done)), H', ⟨by have := HJ2.out; have := HK2.out; first | omega | exact Nat.le_refl _⟩, ⟨by refine pk ?_; refine blk_far ?_ NB349_354.out _; refine pk ?_; refine blk_far ?_ NB349_354.out _; refine pk ?_; refine blk_far ?_ NB349_353.out _; refine pk ?_; refine blk_far ?_ NB349_353.out _; refine pk ?_; exact BK349.out⟩, ⟨by refine pk ?_; refine blk_far ?_ NB350_354.out _; refine pk ?_; refine blk_far ?_ NB350_354.out _; refine pk ?_; refine blk_far ?_ NB350_353.out _; refine pk ?_; refine blk_far ?_ NB350_353.out _; refine pk ?_; exact BK350.out⟩, ⟨by refine pk ?_; refine blk_far ?_ NB353_354.out _; refine pk ?_; refine blk_far ?_ NB353_354.out _; refine pk ?_; refine blk_put (cs := #[.int .i64 ((rd_T73 l0_6 x5_2).f0), .slice none 0 0]) ?_ 1 _ rfl; refine pk ?_; refine blk_put (cs := #[.int .i64 0, .slice none 0 0]) ?_ 0 _ rfl; refine pk ?_; exact BK353.out⟩, ⟨by refine pk ?_; refine blk_put (cs := #[.int .i64 ((rd_T73 l1_6 x5_2).f0), .slice none 0 0]) ?_ 1 _ rfl; refine pk ?_; refine blk_put (cs := #[.int .i64 0, .slice none 0 0]) ?_ 0 _ rfl; refine pk ?_; refine blk_far ?_ NB354_353.out _; refine pk ?_; refine blk_far ?_ NB354_353.out _; refine pk ?_; exact BK354.out⟩, ⟨pb HB⟩⟩
         case rest =>
          clear HC33;(try clear c1);(try clear p2);(try clear c3);(try clear p3);(try clear q3);(try clear hx3);(try clear c4);(try clear c5);(try clear c30);(try clear c30b0);(try clear c31);(try clear c31b0);(try clear c32);(try clear c32b0);(try clear c34);(try clear c35);(try clear p35);(try clear q35);(try clear hx35);(try clear c44);(try clear c44b0);(try clear c44b1);(try clear c45);(try clear c46);(try clear c47);(try clear c49);(try clear c50);(try clear c52);(try clear c53);(try clear c54);(try clear c56);(try clear c57);(try clear hcz24_2);(try clear hcz24_3);(try clear hcz24_4);(try clear hcz24_5);(try clear hcz24_6);(try clear hcz25_0 hcz25_1 hcz25_2 hcz25_3 hcz25_4 hcz25_5 hcz25_6);(try clear hcz27_0 hcz27_1 hcz27_2 hcz27_3 hcz27_4 hcz27_5 hcz27_6);(try clear hcz28_0 hcz28_1 hcz28_2 hcz28_3 hcz28_4 hcz28_5 hcz28_6);(try clear hcz35_0 hcz35_1 hcz35_2 hcz35_3 hcz35_4 hcz35_5 hcz35_6);(try clear hcz48_0 hcz48_1);(try clear hcz51_0 hcz51_1);(try clear hcz55_0 hcz55_1);(try clear hcz58_0 hcz58_1);(try clear hcz8_0 hcz8_1 hcz8_2 hcz8_3 hcz8_4 hcz8_5 hcz8_6);(try clear hcz9_0 hcz9_1 hcz9_2 hcz9_3 hcz9_4 hcz9_5 hcz9_6);(try clear hfz15_0 hfz15_1 hfz15_2 hfz15_3 hfz15_4 hfz15_5 hfz15_6);(try clear hfz16_0 hfz16_1 hfz16_2 hfz16_3 hfz16_4 hfz16_5 hfz16_6);(try clear hfz18_0 hfz18_1 hfz18_2 hfz18_3 hfz18_4 hfz18_5 hfz18_6);(try clear hfz19_0 hfz19_1 hfz19_2 hfz19_3 hfz19_4 hfz19_5 hfz19_6);(try clear hfz21_0 hfz21_1 hfz21_2 hfz21_3 hfz21_4 hfz21_5 hfz21_6);(try clear hfz22_0 hfz22_1 hfz22_2 hfz22_3 hfz22_4 hfz22_5 hfz22_6);(try clear hfz24_0 hfz24_1 hfz24_2 hfz24_3 hfz24_4 hfz24_5 hfz24_6);(try clear hfz25_0 hfz25_1 hfz25_2 hfz25_3 hfz25_4 hfz25_5 hfz25_6);(try clear hfz27_0 hfz27_1 hfz27_2 hfz27_3 hfz27_4 hfz27_5 hfz27_6);(try clear hfz28_0 hfz28_1 hfz28_2 hfz28_3 hfz28_4 hfz28_5 hfz28_6);(try clear hfz35_0 hfz35_1 hfz35_2 hfz35_3 hfz35_4 hfz35_5 hfz35_6);(try clear hfz48_0 hfz48_1);(try clear hfz51_0 hfz51_1);(try clear hfz55_0 hfz55_1);(try clear hfz58_0 hfz58_1);(try clear hfz8_0 hfz8_1 hfz8_2 hfz8_3 hfz8_4 hfz8_5 hfz8_6);(try clear hfz9_0 hfz9_1 hfz9_2 hfz9_3 hfz9_4 hfz9_5 hfz9_6);(try clear hx351_0);(try clear hx351_1);(try clear hx352_0);(try clear hx352_1);(try clear p2);(try clear p351);(try clear p352);(try clear q351);(try clear q352);obtain ⟨kq, x81_32, rfl, HA, HJ32, BK349, BK350, BK353, BK354, HB⟩ := hcut
          cases kq with
          | zero => exact absurd HA.out (by simp [r22_Same.j2])
          | succ kj32 =>
           have H := HA.out;clear HA
           simp only [r22_Same.j2] at H
           by_cases c59 : x81_32 = true
           ·subst c59
            have H1 : (some false) = some r := by rw [if_pos rfl] at H; exact H
            clear H;have H := H1;clear H1;obtain rfl := Option.some.inj H
            go_wp2
            go_ret
            exact ⟨by first | rfl | (simp [errW_none, errW_some] <;> rfl) | (simp [*, errW_none, errW_some] <;> rfl), pb HB⟩
           ·replace c59 := Bool.eq_false_iff.mpr c59;subst c59
            have H1 : (r22_Same.l1 kj32 x5_2 0 a0_0 a0_1 a0_2 a0_3 a0_4 a0_5 l0_6 a1_0 a1_1 a1_2 a1_3 a1_4 a1_5 l1_6 ((rd_T73 l0_6 x5_2).f0) ((rd_T73 l0_6 x5_2).f1) ((rd_T73 l1_6 x5_2).f0) ((rd_T73 l1_6 x5_2).f1)) = some r := by rw [if_neg (show ¬ (false = true) by decide)] at H; exact H
            clear H;have H := H1;clear H1;have H' := am H;clear H
            go_wp2
            go_loopg [8] kj32 (fun kq v8 w' => ∃ (x8_4 : Int), v8 = .int .i64 x8_4 ∧ Aside0 (r22_Same.l1 kq x5_2 x8_4 a0_0 a0_1 a0_2 a0_3 a0_4 a0_5 l0_6 a1_0 a1_1 a1_2 a1_3 a1_4 a1_5 l1_6 ((rd_T73 l0_6 x5_2).f0) ((rd_T73 l0_6 x5_2).f1) ((rd_T73 l1_6 x5_2).f0) ((rd_T73 l1_6 x5_2).f1) = some r) ∧ Aside0 (kq ≤ kj32) ∧ Aside0 (w'.heap[gb349]? = some (.cells #[.int .u64 a0_0, .int .u64 a0_1, .int .i64 a0_2, .int .i64 a0_3, .int .i64 a0_4, .int .i64 a0_5, (.slice (some ad351) l0_6.length c0_6)] 32 (0, 0))) ∧ Aside0 (w'.heap[gb350]? = some (.cells #[.int .u64 a1_0, .int .u64 a1_1, .int .i64 a1_2, .int .i64 a1_3, .int .i64 a1_4, .int .i64 a1_5, (.slice (some ad352) l1_6.length c1_6)] 32 (0, 0))) ∧ Aside0 (w'.heap[gb353]? = some (.cells #[.int .i64 ((rd_T73 l0_6 x5_2).f0), (.slice A351_1 ((rd_T73 l0_6 x5_2).f1).length c351_1)] 73 (0, 0))) ∧ Aside0 (w'.heap[gb354]? = some (.cells #[.int .i64 ((rd_T73 l1_6 x5_2).f0), (.slice A352_1 ((rd_T73 l1_6 x5_2).f1).length c352_1)] 73 (0, 0))) ∧ Aside0 (Below w.heap.size w w'))
            case atStart => exact ⟨(0), (by first | rfl | (simp; done) | (simp [*]; done)), H', ⟨Nat.le_refl _⟩, ⟨pk BK349.out⟩, ⟨pk BK350.out⟩, ⟨pk BK353.out⟩, ⟨pk BK354.out⟩, ⟨pb HB⟩⟩
            case round =>
             clear H';(try clear c1);(try clear p2);(try clear c3);(try clear p3);(try clear q3);(try clear hx3);(try clear c4);(try clear c5);(try clear c30);(try clear c30b0);(try clear c31);(try clear c31b0);(try clear c32);(try clear c32b0);(try clear c34);(try clear c35);(try clear p35);(try clear q35);(try clear hx35);(try clear c44);(try clear c44b0);(try clear c44b1);(try clear c45);(try clear c46);(try clear c47);(try clear c49);(try clear c50);(try clear c52);(try clear c53);(try clear c54);(try clear c56);(try clear c57);(try clear c59);(try clear hcz24_2);(try clear hcz24_3);(try clear hcz24_4);(try clear hcz24_5);(try clear hcz24_6);(try clear hcz25_0 hcz25_1 hcz25_2 hcz25_3 hcz25_4 hcz25_5 hcz25_6);(try clear hcz27_0 hcz27_1 hcz27_2 hcz27_3 hcz27_4 hcz27_5 hcz27_6);(try clear hcz28_0 hcz28_1 hcz28_2 hcz28_3 hcz28_4 hcz28_5 hcz28_6);(try clear hcz35_0 hcz35_1 hcz35_2 hcz35_3 hcz35_4 hcz35_5 hcz35_6);(try clear hcz48_0 hcz48_1);(try clear hcz51_0 hcz51_1);(try clear hcz55_0 hcz55_1);(try clear hcz58_0 hcz58_1);(try clear hcz8_0 hcz8_1 hcz8_2 hcz8_3 hcz8_4 hcz8_5 hcz8_6);(try clear hcz9_0 hcz9_1 hcz9_2 hcz9_3 hcz9_4 hcz9_5 hcz9_6);(try clear hfz15_0 hfz15_1 hfz15_2 hfz15_3 hfz15_4 hfz15_5 hfz15_6);(try clear hfz16_0 hfz16_1 hfz16_2 hfz16_3 hfz16_4 hfz16_5 hfz16_6);(try clear hfz18_0 hfz18_1 hfz18_2 hfz18_3 hfz18_4 hfz18_5 hfz18_6);(try clear hfz19_0 hfz19_1 hfz19_2 hfz19_3 hfz19_4 hfz19_5 hfz19_6);(try clear hfz21_0 hfz21_1 hfz21_2 hfz21_3 hfz21_4 hfz21_5 hfz21_6);(try clear hfz22_0 hfz22_1 hfz22_2 hfz22_3 hfz22_4 hfz22_5 hfz22_6);(try clear hfz24_0 hfz24_1 hfz24_2 hfz24_3 hfz24_4 hfz24_5 hfz24_6);(try clear hfz25_0 hfz25_1 hfz25_2 hfz25_3 hfz25_4 hfz25_5 hfz25_6);(try clear hfz27_0 hfz27_1 hfz27_2 hfz27_3 hfz27_4 hfz27_5 hfz27_6);(try clear hfz28_0 hfz28_1 hfz28_2 hfz28_3 hfz28_4 hfz28_5 hfz28_6);(try clear hfz35_0 hfz35_1 hfz35_2 hfz35_3 hfz35_4 hfz35_5 hfz35_6);(try clear hfz48_0 hfz48_1);(try clear hfz51_0 hfz51_1);(try clear hfz55_0 hfz55_1);(try clear hfz58_0 hfz58_1);(try clear hfz8_0 hfz8_1 hfz8_2 hfz8_3 hfz8_4 hfz8_5 hfz8_6);(try clear hfz9_0 hfz9_1 hfz9_2 hfz9_3 hfz9_4 hfz9_5 hfz9_6);(try clear hx351_0);(try clear hx351_1);(try clear hx352_0);(try clear hx352_1);(try clear p2);(try clear p3);(try clear p35);(try clear p351);(try clear p352);(try clear q3);(try clear q35);(try clear q351);(try clear q352);obtain ⟨x8_4, rfl, HA, HK4, BK349, BK350, BK353, BK354, HB⟩ := hrel
             cases gk with
             | zero => exact absurd HA.out (by simp [r22_Same.l1])
             | succ k4 =>
              have H := HA.out;clear HA
              simp only [r22_Same.l1] at H
              by_cases c60 : x8_4 < (((rd_T73 l0_6 x5_2).f1).length : Int)
              ·rw [if_pos c60] at H;have c60b0 : decide (x8_4 < (((rd_T73 l0_6 x5_2).f1).length : Int)) = true := decide_eq_true c60;clear c60
               by_cases c61 : 0 ≤ x8_4
               ·rw [if_pos c61] at H;have c61b0 : decide (0 ≤ x8_4) = true := decide_eq_true c61;clear c61
                by_cases c62 : x8_4 < (((rd_T73 l1_6 x5_2).f1).length : Int)
                ·rw [if_pos c62] at H;have c62b0 : decide (x8_4 < (((rd_T73 l1_6 x5_2).f1).length : Int)) = true := decide_eq_true c62;clear c62
                 by_cases c63 : ((rd_T71 ((rd_T73 l0_6 x5_2).f1) x8_4).f0).toList = ((rd_T71 ((rd_T73 l1_6 x5_2).f1) x8_4).f0).toList
                 ·rw [if_pos c63] at H;have c63b0 : (((rd_T71 ((rd_T73 l0_6 x5_2).f1) x8_4).f0).toList == ((rd_T71 ((rd_T73 l1_6 x5_2).f1) x8_4).f0).toList) = true := beq_iff_eq.mpr c63;have c63b1 : (((rd_T71 ((rd_T73 l0_6 x5_2).f1) x8_4).f0).toList != ((rd_T71 ((rd_T73 l1_6 x5_2).f1) x8_4).f0).toList) = false := bne_eq_false_iff_eq.mpr c63;clear c63
                  by_cases c64 : ((rd_T71 ((rd_T73 l0_6 x5_2).f1) x8_4).f1) = ((rd_T71 ((rd_T73 l1_6 x5_2).f1) x8_4).f1)
                  ·rw [if_pos c64] at H;have c64b0 : (((rd_T71 ((rd_T73 l0_6 x5_2).f1) x8_4).f1) == ((rd_T71 ((rd_T73 l1_6 x5_2).f1) x8_4).f1)) = true := beq_iff_eq.mpr c64;have c64b1 : (((rd_T71 ((rd_T73 l0_6 x5_2).f1) x8_4).f1) != ((rd_T71 ((rd_T73 l1_6 x5_2).f1) x8_4).f1)) = false := bne_eq_false_iff_eq.mpr c64;clear c64;replace H := Option.bind_eq_some_iff.mp H;obtain ⟨t361, A650, H⟩ := H
                   try dsimp only at H
                   have A65 := am A650;clear A650
                   by_cases c66 : t361 = true
                   ·subst c66
                    have H1 : (r22_Same.l1 k4 x5_2 (wrap64 (x8_4 + 1)) a0_0 a0_1 a0_2 a0_3 a0_4 a0_5 l0_6 a1_0 a1_1 a1_2 a1_3 a1_4 a1_5 l1_6 ((rd_T73 l0_6 x5_2).f0) ((rd_T73 l0_6 x5_2).f1) ((rd_T73 l1_6 x5_2).f0) ((rd_T73 l1_6 x5_2).f1)) = some r := by rw [if_pos rfl] at H; exact H
                    clear H;have H := H1;clear H1;have H' := am H;clear H;have hnb67 := NB353_349.out;have hnc67 := NB349_353.out;have hnb68 := NB353_350.out;have hnc68 := NB350_353.out;have hnb69 := NB353_354.out;have hnc69 := NB354_353.out;obtain ⟨hcz70_0, hcz70_1, hfz70_0, hfz70_1⟩ := g2 BK353
                    try go_wp2
                    replace BK349 := am (blk_drew BK349.out);replace BK350 := am (blk_drew BK350.out);replace BK353 := am (blk_drew BK353.out);replace BK354 := am (blk_drew BK354.out);replace HB := am (below_drew1 HB.out);have p355 : 0 ≤ (x8_4 : Int) := of_decide_eq_true (by first | (with_reducible assumption) | assumption);have q355 : x8_4 < (((rd_T73 l0_6 x5_2).f1).length : Int) := of_decide_eq_true (by first | (with_reducible assumption) | assumption);obtain ⟨ad355, A355_2, c355_2, e355, hx355_0, hx355_1, hx355_2, hl355_2, hi355_2⟩ := at_T71 HR351_1.out x8_4 p355 q355;have hw355_2 := hx355_2;have hw355_1 := hx355_1;have hw355_0 := hx355_0;cases e355;replace hx355_0 := (HB.out.cell (World.block_lt_of_cell? w _ hx355_0)).trans hx355_0;replace hx355_1 := (HB.out.cell (World.block_lt_of_cell? w _ hx355_1)).trans hx355_1;replace hx355_2 := (HB.out.cell (World.block_lt_of_cell? w _ hx355_2)).trans hx355_2;have HR355_2 := am hi355_2;have HC355_2 := am hl355_2;clear hi355_2 hl355_2;replace p355 := eq_true p355;replace q355 := eq_true q355;have p356 : 0 ≤ (x8_4 : Int) := of_decide_eq_true (by first | (with_reducible assumption) | assumption);have q356 : x8_4 < (((rd_T73 l1_6 x5_2).f1).length : Int) := of_decide_eq_true (by first | (with_reducible assumption) | assumption);obtain ⟨ad356, A356_2, c356_2, e356, hx356_0, hx356_1, hx356_2, hl356_2, hi356_2⟩ := at_T71 HR352_1.out x8_4 p356 q356;have hw356_2 := hx356_2;have hw356_1 := hx356_1;have hw356_0 := hx356_0;cases e356;replace hx356_0 := (HB.out.cell (World.block_lt_of_cell? w _ hx356_0)).trans hx356_0;replace hx356_1 := (HB.out.cell (World.block_lt_of_cell? w _ hx356_1)).trans hx356_1;replace hx356_2 := (HB.out.cell (World.block_lt_of_cell? w _ hx356_2)).trans hx356_2;have HR356_2 := am hi356_2;have HC356_2 := am hl356_2;clear hi356_2 hl356_2;replace p356 := eq_true p356;replace q356 := eq_true q356;have p357 : 0 ≤ (x8_4 : Int) := of_decide_eq_true (by first | (with_reducible assumption) | assumption);have q357 : x8_4 < (((rd_T73 l0_6 x5_2).f1).length : Int) := of_decide_eq_true (by first | (with_reducible assumption) | assumption);obtain ⟨ad357, A357_2, c357_2, e357, hx357_0, hx357_1, hx357_2, hl357_2, hi357_2⟩ := at_T71 HR351_1.out x8_4 p357 q357;have hw357_2 := hx357_2;have hw357_1 := hx357_1;have hw357_0 := hx357_0;obtain rfl : ad355 = ad357 := (by injection e357);replace hx357_0 := (HB.out.cell (World.block_lt_of_cell? w _ hx357_0)).trans hx357_0;replace hx357_1 := (HB.out.cell (World.block_lt_of_cell? w _ hx357_1)).trans hx357_1;replace hx357_2 := (HB.out.cell (World.block_lt_of_cell? w _ hx357_2)).trans hx357_2;have HR357_2 := am hi357_2;have HC357_2 := am hl357_2;clear hi357_2 hl357_2;replace p357 := eq_true p357;replace q357 := eq_true q357;have ea_ := Option.some.inj (hx355_2.symm.trans hx357_2)
                    injection ea_ with ea_ en_ ec_
                    subst ea_;subst ec_;clear en_;have p358 : 0 ≤ (x8_4 : Int) := of_decide_eq_true (by first | (with_reducible assumption) | assumption);have q358 : x8_4 < (((rd_T73 l1_6 x5_2).f1).length : Int) := of_decide_eq_true (by first | (with_reducible assumption) | assumption);obtain ⟨ad358, A358_2, c358_2, e358, hx358_0, hx358_1, hx358_2, hl358_2, hi358_2⟩ := at_T71 HR352_1.out x8_4 p358 q358;have hw358_2 := hx358_2;have hw358_1 := hx358_1;have hw358_0 := hx358_0;obtain rfl : ad356 = ad358 := (by injection e358);replace hx358_0 := (HB.out.cell (World.block_lt_of_cell? w _ hx358_0)).trans hx358_0;replace hx358_1 := (HB.out.cell (World.block_lt_of_cell? w _ hx358_1)).trans hx358_1;replace hx358_2 := (HB.out.cell (World.block_lt_of_cell? w _ hx358_2)).trans hx358_2;have HR358_2 := am hi358_2;have HC358_2 := am hl358_2;clear hi358_2 hl358_2;replace p358 := eq_true p358;replace q358 := eq_true q358;have ea_ := Option.some.inj (hx356_2.symm.trans hx358_2)
                    injection ea_ with ea_ en_ ec_
                    subst ea_;subst ec_;clear en_;have p359 : 0 ≤ (x8_4 : Int) := of_decide_eq_true (by first | (with_reducible assumption) | assumption);have q359 : x8_4 < (((rd_T73 l0_6 x5_2).f1).length : Int) := of_decide_eq_true (by first | (with_reducible assumption) | assumption);obtain ⟨ad359, A359_2, c359_2, e359, hx359_0, hx359_1, hx359_2, hl359_2, hi359_2⟩ := at_T71 HR351_1.out x8_4 p359 q359;have hw359_2 := hx359_2;have hw359_1 := hx359_1;have hw359_0 := hx359_0;obtain rfl : ad355 = ad359 := (by injection e359);replace hx359_0 := (HB.out.cell (World.block_lt_of_cell? w _ hx359_0)).trans hx359_0;replace hx359_1 := (HB.out.cell (World.block_lt_of_cell? w _ hx359_1)).trans hx359_1;replace hx359_2 := (HB.out.cell (World.block_lt_of_cell? w _ hx359_2)).trans hx359_2;have HR359_2 := am hi359_2;have HC359_2 := am hl359_2;clear hi359_2 hl359_2;replace p359 := eq_true p359;replace q359 := eq_true q359;have ea_ := Option.some.inj (hx355_2.symm.trans hx359_2)
                    injection ea_ with ea_ en_ ec_
                    subst ea_;subst ec_;clear en_;have p360 : 0 ≤ (x8_4 : Int) := of_decide_eq_true (by first | (with_reducible assumption) | assumption);have q360 : x8_4 < (((rd_T73 l1_6 x5_2).f1).length : Int) := of_decide_eq_true (by first | (with_reducible assumption) | assumption);obtain ⟨ad360, A360_2, c360_2, e360, hx360_0, hx360_1, hx360_2, hl360_2, hi360_2⟩ := at_T71 HR352_1.out x8_4 p360 q360;have hw360_2 := hx360_2;have hw360_1 := hx360_1;have hw360_0 := hx360_0;obtain rfl : ad356 = ad360 := (by injection e360);replace hx360_0 := (HB.out.cell (World.block_lt_of_cell? w _ hx360_0)).trans hx360_0;replace hx360_1 := (HB.out.cell (World.block_lt_of_cell? w _ hx360_1)).trans hx360_1;replace hx360_2 := (HB.out.cell (World.block_lt_of_cell? w _ hx360_2)).trans hx360_2;have HR360_2 := am hi360_2;have HC360_2 := am hl360_2;clear hi360_2 hl360_2;replace p360 := eq_true p360;replace q360 := eq_true q360;have ea_ := Option.some.inj (hx356_2.symm.trans hx360_2)
                    injection ea_ with ea_ en_ ec_
                    subst ea_;subst ec_;clear en_
                    refine start_ (n := 44) (S := fun w' => w'.cell? ⟨gb353, 0, none⟩ = some (.int .i64 ((rd_T73 l0_6 x5_2).f0)) ∧ w'.cell? ⟨gb353, 1, none⟩ = some (.slice (some ad355) ((rd_T73 l0_6 x5_2).f1).length c351_1) ∧ w'.cell? ⟨gb354, 0, none⟩ = some (.int .i64 ((rd_T73 l1_6 x5_2).f0)) ∧ w'.cell? ⟨gb354, 1, none⟩ = some (.slice (some ad356) ((rd_T73 l1_6 x5_2).f1).length c352_1) ∧ w'.cell? (ad355.add ((x8_4).toNat * 3)) = some (.string ((rd_T71 ((rd_T73 l0_6 x5_2).f1) x8_4).f0)) ∧ w'.cell? ⟨(ad355.add ((x8_4).toNat * 3)).block, (ad355.add ((x8_4).toNat * 3)).off + 1, none⟩ = some (.int .u64 ((rd_T71 ((rd_T73 l0_6 x5_2).f1) x8_4).f1)) ∧ w'.cell? ⟨(ad355.add ((x8_4).toNat * 3)).block, (ad355.add ((x8_4).toNat * 3)).off + 2, none⟩ = some (.slice A355_2 ((rd_T71 ((rd_T73 l0_6 x5_2).f1) x8_4).f2).length c355_2) ∧ w'.cell? (ad356.add ((x8_4).toNat * 3)) = some (.string ((rd_T71 ((rd_T73 l1_6 x5_2).f1) x8_4).f0)) ∧ w'.cell? ⟨(ad356.add ((x8_4).toNat * 3)).block, (ad356.add ((x8_4).toNat * 3)).off + 1, none⟩ = some (.int .u64 ((rd_T71 ((rd_T73 l1_6 x5_2).f1) x8_4).f1)) ∧ w'.cell? ⟨(ad356.add ((x8_4).toNat * 3)).block, (ad356.add ((x8_4).toNat * 3)).off + 2, none⟩ = some (.slice A356_2 ((rd_T71 ((rd_T73 l1_6 x5_2).f1) x8_4).f2).length c356_2) ∧ w'.cell? (ad355.add ((x8_4).toNat * 3)) = some (.string ((rd_T71 ((rd_T73 l0_6 x5_2).f1) x8_4).f0)) ∧ w'.cell? ⟨(ad355.add ((x8_4).toNat * 3)).block, (ad355.add ((x8_4).toNat * 3)).off + 1, none⟩ = some (.int .u64 ((rd_T71 ((rd_T73 l0_6 x5_2).f1) x8_4).f1)) ∧ w'.cell? ⟨(ad355.add ((x8_4).toNat * 3)).block, (ad355.add ((x8_4).toNat * 3)).off + 2, none⟩ = some (.slice A355_2 ((rd_T71 ((rd_T73 l0_6 x5_2).f1) x8_4).f2).length c355_2) ∧ w'.cell? (ad356.add ((x8_4).toNat * 3)) = some (.string ((rd_T71 ((rd_T73 l1_6 x5_2).f1) x8_4).f0)) ∧ w'.cell? ⟨(ad356.add ((x8_4).toNat * 3)).block, (ad356.add ((x8_4).toNat * 3)).off + 1, none⟩ = some (.int .u64 ((rd_T71 ((rd_T73 l1_6 x5_2).f1) x8_4).f1)) ∧ w'.cell? ⟨(ad356.add ((x8_4).toNat * 3)).block, (ad356.add ((x8_4).toNat * 3)).off + 2, none⟩ = some (.slice A356_2 ((rd_T71 ((rd_T73 l1_6 x5_2).f1) x8_4).f2).length c356_2) ∧ w'.cell? (ad355.add ((x8_4).toNat * 3)) = some (.string ((rd_T71 ((rd_T73 l0_6 x5_2).f1) x8_4).f0)) ∧ w'.cell? ⟨(ad355.add ((x8_4).toNat * 3)).block, (ad355.add ((x8_4).toNat * 3)).off + 1, none⟩ = some (.int .u64 ((rd_T71 ((rd_T73 l0_6 x5_2).f1) x8_4).f1)) ∧ w'.cell? ⟨(ad355.add ((x8_4).toNat * 3)).block, (ad355.add ((x8_4).toNat * 3)).off + 2, none⟩ = some (.slice A355_2 ((rd_T71 ((rd_T73 l0_6 x5_2).f1) x8_4).f2).length c355_2) ∧ w'.cell? (ad356.add ((x8_4).toNat * 3)) = some (.string ((rd_T71 ((rd_T73 l1_6 x5_2).f1) x8_4).f0)) ∧ w'.cell? ⟨(ad356.add ((x8_4).toNat * 3)).block, (ad356.add ((x8_4).toNat * 3)).off + 1, none⟩ = some (.int .u64 ((rd_T71 ((rd_T73 l1_6 x5_2).f1) x8_4).f1)) ∧ w'.cell? ⟨(ad356.add ((x8_4).toNat * 3)).block, (ad356.add ((x8_4).toNat * 3)).off + 2, none⟩ = some (.slice A356_2 ((rd_T71 ((rd_T73 l1_6 x5_2).f1) x8_4).f2).length c356_2)) (ds := []) #[false, false, false, false, false, false, false, false, false, false, false, false, false, false, false, false, false, false, false, false, false, false, false, false, false, false, false, false, false, false, false, false, false, false, false, false, false, false, false, false, false, false, false, false] (by kernel_rfl) rfl rfl ⟨ce BK353 0, ce BK353 1, ce BK354 0, ce BK354 1, ((HB.out.cell (World.block_lt_of_cell? w _ hw355_0)).trans hw355_0), ((HB.out.cell (World.block_lt_of_cell? w _ hw355_1)).trans hw355_1), ((HB.out.cell (World.block_lt_of_cell? w _ hw355_2)).trans hw355_2), ((HB.out.cell (World.block_lt_of_cell? w _ hw356_0)).trans hw356_0), ((HB.out.cell (World.block_lt_of_cell? w _ hw356_1)).trans hw356_1), ((HB.out.cell (World.block_lt_of_cell? w _ hw356_2)).trans hw356_2), ((HB.out.cell (World.block_lt_of_cell? w _ hw357_0)).trans hw357_0), ((HB.out.cell (World.block_lt_of_cell? w _ hw357_1)).trans hw357_1), ((HB.out.cell (World.block_lt_of_cell? w _ hw357_2)).trans hw357_2), ((HB.out.cell (World.block_lt_of_cell? w _ hw358_0)).trans hw358_0), ((HB.out.cell (World.block_lt_of_cell? w _ hw358_1)).trans hw358_1), ((HB.out.cell (World.block_lt_of_cell? w _ hw358_2)).trans hw358_2), ((HB.out.cell (World.block_lt_of_cell? w _ hw359_0)).trans hw359_0), ((HB.out.cell (World.block_lt_of_cell? w _ hw359_1)).trans hw359_1), ((HB.out.cell (World.block_lt_of_cell? w _ hw359_2)).trans hw359_2), ((HB.out.cell (World.block_lt_of_cell? w _ hw360_0)).trans hw360_0), ((HB.out.cell (World.block_lt_of_cell? w _ hw360_1)).trans hw360_1), ((HB.out.cell (World.block_lt_of_cell? w _ hw360_2)).trans hw360_2)⟩ (fun hHeld => ?_); refine with_tabW r22_Same.tab12 r22_Same.bits12 (fun HT_ HW_ => ?_)
                    generalize wr.drew = w71 at BK349 BK350 BK353 BK354 HB HR355_2 HR356_2 HR357_2 HR358_2 HR359_2 HR360_2 hx355_0 hx355_1 hx355_2 hx356_0 hx356_1 hx356_2 hx357_0 hx357_1 hx357_2 hx358_0 hx358_1 hx358_2 hx359_0 hx359_1 hx359_2 hx360_0 hx360_1 hx360_2 hHeld ⊢
                    refine pu 0 ?_
                    refine pu 2 ?_
                    refine pu 6 ?_
                    refine pu 8 ?_
                    refine ta 1 hHeld ?_
                    refine pu 3 ?_
                    refine pu 4 ?_
                    refine ta 5 hHeld ?_
                    refine ta 7 hHeld ?_
                    refine pu 9 ?_
                    refine pu 10 ?_
                    refine ta 11 hHeld ?_
                    refine pu 12 ?_
                    refine pu 13 ?_
                    refine pu 14 ?_
                    refine pu 16 ?_
                    refine pu 20 ?_
                    refine pu 22 ?_
                    refine ta 15 hHeld ?_
                    refine pu 17 ?_
                    refine pu 18 ?_
                    refine ta 19 hHeld ?_
                    refine ta 21 hHeld ?_
                    refine pu 23 ?_
                    refine pu 24 ?_
                    refine ta 25 hHeld ?_
                    refine pu 26 ?_
                    refine pu 27 ?_
                    refine pu 28 ?_
                    refine pu 29 ?_
                    refine pu 31 ?_
                    refine pu 35 ?_
                    refine pu 37 ?_
                    refine ta 30 hHeld ?_
                    refine pu 32 ?_
                    refine pu 33 ?_
                    refine ta 34 hHeld ?_
                    refine ta 36 hHeld ?_
                    refine pu 38 ?_
                    refine pu 39 ?_
                    refine ta 40 hHeld ?_
                    refine on1 41 (fun K hK => ?_)
                    refine gs Try.func33 #[.slice A355_2 ((rd_T71 ((rd_T73 l0_6 x5_2).f1) x8_4).f2).length c355_2, .slice A356_2 ((rd_T71 ((rd_T73 l1_6 x5_2).f1) x8_4).f2).length c356_2] ?_
                    with_reducible refine (r22_buckets.calls k4 _ _ ((rd_T71 ((rd_T73 l0_6 x5_2).f1) x8_4).f2) _ _ ((rd_T71 ((rd_T73 l1_6 x5_2).f1) x8_4).f2) true _ ?side1 ?side2 ?side3 ?side4 A65.out).mono ?_
                    (case side1 => repeat (first | exact (Kd.C_below HR359_2.out HB.out) | (with_reducible refine Kd.C_alloc ?_ _) | (with_reducible refine Kd.C_drewN ?_ _) | (with_reducible refine Kd.C_drew ?_)))
                    (case side2 => exact HC359_2.out)
                    (case side3 => repeat (first | exact (Kd.C_below HR360_2.out HB.out) | (with_reducible refine Kd.C_alloc ?_ _) | (with_reducible refine Kd.C_drewN ?_ _) | (with_reducible refine Kd.C_drew ?_)))
                    (case side4 => exact HC360_2.out)
                    rintro e w' ⟨rfl, ⟨nd, rfl⟩⟩
                    refine ⟨_, rfl, ?_⟩
                    refine hK.out _ _ ⟨ce BK353 0, ce BK353 1, ce BK354 0, ce BK354 1, ((HB.out.cell (World.block_lt_of_cell? w _ hw355_0)).trans hw355_0), ((HB.out.cell (World.block_lt_of_cell? w _ hw355_1)).trans hw355_1), ((HB.out.cell (World.block_lt_of_cell? w _ hw355_2)).trans hw355_2), ((HB.out.cell (World.block_lt_of_cell? w _ hw356_0)).trans hw356_0), ((HB.out.cell (World.block_lt_of_cell? w _ hw356_1)).trans hw356_1), ((HB.out.cell (World.block_lt_of_cell? w _ hw356_2)).trans hw356_2), ((HB.out.cell (World.block_lt_of_cell? w _ hw357_0)).trans hw357_0), ((HB.out.cell (World.block_lt_of_cell? w _ hw357_1)).trans hw357_1), ((HB.out.cell (World.block_lt_of_cell? w _ hw357_2)).trans hw357_2), ((HB.out.cell (World.block_lt_of_cell? w _ hw358_0)).trans hw358_0), ((HB.out.cell (World.block_lt_of_cell? w _ hw358_1)).trans hw358_1), ((HB.out.cell (World.block_lt_of_cell? w _ hw358_2)).trans hw358_2), ((HB.out.cell (World.block_lt_of_cell? w _ hw359_0)).trans hw359_0), ((HB.out.cell (World.block_lt_of_cell? w _ hw359_1)).trans hw359_1), ((HB.out.cell (World.block_lt_of_cell? w _ hw359_2)).trans hw359_2), ((HB.out.cell (World.block_lt_of_cell? w _ hw360_0)).trans hw360_0), ((HB.out.cell (World.block_lt_of_cell? w _ hw360_1)).trans hw360_1), ((HB.out.cell (World.block_lt_of_cell? w _ hw360_2)).trans hw360_2)⟩ (fun hHeld => ?_)
                    clear hK K
                    refine nm ?_
                    refine pu 42 ?_
                    refine pu 43 ?_
                    refine done_ (done_of HT_.out (by kernel_rfl)) ?_
                    try go_wp2
                    go_roundg k4
                    case measure => have := HJ2.out; have := HK2.out; have := HJ32.out; have := HK4.out; omega
                    case rel => exact ⟨(wrap64 (x8_4 + 1)), (by first | rfl | (simp; done) | (simp [*]; done)), H', ⟨by have := HJ2.out; have := HK2.out; have := HJ32.out; have := HK4.out; omega⟩, ⟨pk BK349.out⟩, ⟨pk BK350.out⟩, ⟨pk BK353.out⟩, ⟨pk BK354.out⟩, ⟨pb HB⟩⟩
                   ·replace c66 := Bool.eq_false_iff.mpr c66;subst c66
                    have H1 : (some false) = some r := by rw [if_neg (show ¬ (false = true) by decide)] at H; exact H
                    clear H;have H := H1;clear H1;obtain rfl := Option.some.inj H;have hnb72 := NB353_349.out;have hnc72 := NB349_353.out;have hnb73 := NB353_350.out;have hnc73 := NB350_353.out;have hnb74 := NB353_354.out;have hnc74 := NB354_353.out;obtain ⟨hcz75_0, hcz75_1, hfz75_0, hfz75_1⟩ := g2 BK353
                    try go_wp2
                    replace BK349 := am (blk_drew BK349.out);replace BK350 := am (blk_drew BK350.out);replace BK353 := am (blk_drew BK353.out);replace BK354 := am (blk_drew BK354.out);replace HB := am (below_drew1 HB.out);have p355 : 0 ≤ (x8_4 : Int) := of_decide_eq_true (by first | (with_reducible assumption) | assumption);have q355 : x8_4 < (((rd_T73 l0_6 x5_2).f1).length : Int) := of_decide_eq_true (by first | (with_reducible assumption) | assumption);obtain ⟨ad355, A355_2, c355_2, e355, hx355_0, hx355_1, hx355_2, hl355_2, hi355_2⟩ := at_T71 HR351_1.out x8_4 p355 q355;have hw355_2 := hx355_2;have hw355_1 := hx355_1;have hw355_0 := hx355_0;cases e355;replace hx355_0 := (HB.out.cell (World.block_lt_of_cell? w _ hx355_0)).trans hx355_0;replace hx355_1 := (HB.out.cell (World.block_lt_of_cell? w _ hx355_1)).trans hx355_1;replace hx355_2 := (HB.out.cell (World.block_lt_of_cell? w _ hx355_2)).trans hx355_2;have HR355_2 := am hi355_2;have HC355_2 := am hl355_2;clear hi355_2 hl355_2;replace p355 := eq_true p355;replace q355 := eq_true q355;have p356 : 0 ≤ (x8_4 : Int) := of_decide_eq_true (by first | (with_reducible assumption) | assumption);have q356 : x8_4 < (((rd_T73 l1_6 x5_2).f1).length : Int) := of_decide_eq_true (by first | (with_reducible assumption) | assumption);obtain ⟨ad356, A356_2, c356_2, e356, hx356_0, hx356_1, hx356_2, hl356_2, hi356_2⟩ := at_T71 HR352_1.out x8_4 p356 q356;have hw356_2 := hx356_2;have hw356_1 := hx356_1;have hw356_0 := hx356_0;cases e356;replace hx356_0 := (HB.out.cell (World.block_lt_of_cell? w _ hx356_0)).trans hx356_0;replace hx356_1 := (HB.out.cell (World.block_lt_of_cell? w _ hx356_1)).trans hx356_1;replace hx356_2 := (HB.out.cell (World.block_lt_of_cell? w _ hx356_2)).trans hx356_2;have HR356_2 := am hi356_2;have HC356_2 := am hl356_2;clear hi356_2 hl356_2;replace p356 := eq_true p356;replace q356 := eq_true q356;have p357 : 0 ≤ (x8_4 : Int) := of_decide_eq_true (by first | (with_reducible assumption) | assumption);have q357 : x8_4 < (((rd_T73 l0_6 x5_2).f1).length : Int) := of_decide_eq_true (by first | (with_reducible assumption) | assumption);obtain ⟨ad357, A357_2, c357_2, e357, hx357_0, hx357_1, hx357_2, hl357_2, hi357_2⟩ := at_T71 HR351_1.out x8_4 p357 q357;have hw357_2 := hx357_2;have hw357_1 := hx357_1;have hw357_0 := hx357_0;obtain rfl : ad355 = ad357 := (by injection e357);replace hx357_0 := (HB.out.cell (World.block_lt_of_cell? w _ hx357_0)).trans hx357_0;replace hx357_1 := (HB.out.cell (World.block_lt_of_cell? w _ hx357_1)).trans hx357_1;replace hx357_2 := (HB.out.cell (World.block_lt_of_cell? w _ hx357_2)).trans hx357_2;have HR357_2 := am hi357_2;have HC357_2 := am hl357_2;clear hi357_2 hl357_2;replace p357 := eq_true p357;replace q357 := eq_true q357;have ea_ := Option.some.inj (hx355_2.symm.trans hx357_2)
                    injection ea_ with ea_ en_ ec_
                    subst ea_;subst ec_;clear en_;have p358 : 0 ≤ (x8_4 : Int) := of_decide_eq_true (by first | (with_reducible assumption) | assumption);have q358 : x8_4 < (((rd_T73 l1_6 x5_2).f1).length : Int) := of_decide_eq_true (by first | (with_reducible assumption) | assumption);obtain ⟨ad358, A358_2, c358_2, e358, hx358_0, hx358_1, hx358_2, hl358_2, hi358_2⟩ := at_T71 HR352_1.out x8_4 p358 q358;have hw358_2 := hx358_2;have hw358_1 := hx358_1;have hw358_0 := hx358_0;obtain rfl : ad356 = ad358 := (by injection e358);replace hx358_0 := (HB.out.cell (World.block_lt_of_cell? w _ hx358_0)).trans hx358_0;replace hx358_1 := (HB.out.cell (World.block_lt_of_cell? w _ hx358_1)).trans hx358_1;replace hx358_2 := (HB.out.cell (World.block_lt_of_cell? w _ hx358_2)).trans hx358_2;have HR358_2 := am hi358_2;have HC358_2 := am hl358_2;clear hi358_2 hl358_2;replace p358 := eq_true p358;replace q358 := eq_true q358;have ea_ := Option.some.inj (hx356_2.symm.trans hx358_2)
                    injection ea_ with ea_ en_ ec_
                    subst ea_;subst ec_;clear en_;have p359 : 0 ≤ (x8_4 : Int) := of_decide_eq_true (by first | (with_reducible assumption) | assumption);have q359 : x8_4 < (((rd_T73 l0_6 x5_2).f1).length : Int) := of_decide_eq_true (by first | (with_reducible assumption) | assumption);obtain ⟨ad359, A359_2, c359_2, e359, hx359_0, hx359_1, hx359_2, hl359_2, hi359_2⟩ := at_T71 HR351_1.out x8_4 p359 q359;have hw359_2 := hx359_2;have hw359_1 := hx359_1;have hw359_0 := hx359_0;obtain rfl : ad355 = ad359 := (by injection e359);replace hx359_0 := (HB.out.cell (World.block_lt_of_cell? w _ hx359_0)).trans hx359_0;replace hx359_1 := (HB.out.cell (World.block_lt_of_cell? w _ hx359_1)).trans hx359_1;replace hx359_2 := (HB.out.cell (World.block_lt_of_cell? w _ hx359_2)).trans hx359_2;have HR359_2 := am hi359_2;have HC359_2 := am hl359_2;clear hi359_2 hl359_2;replace p359 := eq_true p359;replace q359 := eq_true q359;have ea_ := Option.some.inj (hx355_2.symm.trans hx359_2)
                    injection ea_ with ea_ en_ ec_
                    subst ea_;subst ec_;clear en_;have p360 : 0 ≤ (x8_4 : Int) := of_decide_eq_true (by first | (with_reducible assumption) | assumption);have q360 : x8_4 < (((rd_T73 l1_6 x5_2).f1).length : Int) := of_decide_eq_true (by first | (with_reducible assumption) | assumption);obtain ⟨ad360, A360_2, c360_2, e360, hx360_0, hx360_1, hx360_2, hl360_2, hi360_2⟩ := at_T71 HR352_1.out x8_4 p360 q360;have hw360_2 := hx360_2;have hw360_1 := hx360_1;have hw360_0 := hx360_0;obtain rfl : ad356 = ad360 := (by injection e360);replace hx360_0 := (HB.out.cell (World.block_lt_of_cell? w _ hx360_0)).trans hx360_0;replace hx360_1 := (HB.out.cell (World.block_lt_of_cell? w _ hx360_1)).trans hx360_1;replace hx360_2 := (HB.out.cell (World.block_lt_of_cell? w _ hx360_2)).trans hx360_2;have HR360_2 := am hi360_2;have HC360_2 := am hl360_2;clear hi360_2 hl360_2;replace p360 := eq_true p360;replace q360 := eq_true q360;have ea_ := Option.some.inj (hx356_2.symm.trans hx360_2)
                    injection ea_ with ea_ en_ ec_
                    subst ea_;subst ec_;clear en_
                    refine start_ (n := 44) (S := fun w' => w'.cell? ⟨gb353, 0, none⟩ = some (.int .i64 ((rd_T73 l0_6 x5_2).f0)) ∧ w'.cell? ⟨gb353, 1, none⟩ = some (.slice (some ad355) ((rd_T73 l0_6 x5_2).f1).length c351_1) ∧ w'.cell? ⟨gb354, 0, none⟩ = some (.int .i64 ((rd_T73 l1_6 x5_2).f0)) ∧ w'.cell? ⟨gb354, 1, none⟩ = some (.slice (some ad356) ((rd_T73 l1_6 x5_2).f1).length c352_1) ∧ w'.cell? (ad355.add ((x8_4).toNat * 3)) = some (.string ((rd_T71 ((rd_T73 l0_6 x5_2).f1) x8_4).f0)) ∧ w'.cell? ⟨(ad355.add ((x8_4).toNat * 3)).block, (ad355.add ((x8_4).toNat * 3)).off + 1, none⟩ = some (.int .u64 ((rd_T71 ((rd_T73 l0_6 x5_2).f1) x8_4).f1)) ∧ w'.cell? ⟨(ad355.add ((x8_4).toNat * 3)).block, (ad355.add ((x8_4).toNat * 3)).off + 2, none⟩ = some (.slice A355_2 ((rd_T71 ((rd_T73 l0_6 x5_2).f1) x8_4).f2).length c355_2) ∧ w'.cell? (ad356.add ((x8_4).toNat * 3)) = some (.string ((rd_T71 ((rd_T73 l1_6 x5_2).f1) x8_4).f0)) ∧ w'.cell? ⟨(ad356.add ((x8_4).toNat * 3)).block, (ad356.add ((x8_4).toNat * 3)).off + 1, none⟩ = some (.int .u64 ((rd_T71 ((rd_T73 l1_6 x5_2).f1) x8_4).f1)) ∧ w'.cell? ⟨(ad356.add ((x8_4).toNat * 3)).block, (ad356.add ((x8_4).toNat * 3)).off + 2, none⟩ = some (.slice A356_2 ((rd_T71 ((rd_T73 l1_6 x5_2).f1) x8_4).f2).length c356_2) ∧ w'.cell? (ad355.add ((x8_4).toNat * 3)) = some (.string ((rd_T71 ((rd_T73 l0_6 x5_2).f1) x8_4).f0)) ∧ w'.cell? ⟨(ad355.add ((x8_4).toNat * 3)).block, (ad355.add ((x8_4).toNat * 3)).off + 1, none⟩ = some (.int .u64 ((rd_T71 ((rd_T73 l0_6 x5_2).f1) x8_4).f1)) ∧ w'.cell? ⟨(ad355.add ((x8_4).toNat * 3)).block, (ad355.add ((x8_4).toNat * 3)).off + 2, none⟩ = some (.slice A355_2 ((rd_T71 ((rd_T73 l0_6 x5_2).f1) x8_4).f2).length c355_2) ∧ w'.cell? (ad356.add ((x8_4).toNat * 3)) = some (.string ((rd_T71 ((rd_T73 l1_6 x5_2).f1) x8_4).f0)) ∧ w'.cell? ⟨(ad356.add ((x8_4).toNat * 3)).block, (ad356.add ((x8_4).toNat * 3)).off + 1, none⟩ = some (.int .u64 ((rd_T71 ((rd_T73 l1_6 x5_2).f1) x8_4).f1)) ∧ w'.cell? ⟨(ad356.add ((x8_4).toNat * 3)).block, (ad356.add ((x8_4).toNat * 3)).off + 2, none⟩ = some (.slice A356_2 ((rd_T71 ((rd_T73 l1_6 x5_2).f1) x8_4).f2).length c356_2) ∧ w'.cell? (ad355.add ((x8_4).toNat * 3)) = some (.string ((rd_T71 ((rd_T73 l0_6 x5_2).f1) x8_4).f0)) ∧ w'.cell? ⟨(ad355.add ((x8_4).toNat * 3)).block, (ad355.add ((x8_4).toNat * 3)).off + 1, none⟩ = some (.int .u64 ((rd_T71 ((rd_T73 l0_6 x5_2).f1) x8_4).f1)) ∧ w'.cell? ⟨(ad355.add ((x8_4).toNat * 3)).block, (ad355.add ((x8_4).toNat * 3)).off + 2, none⟩ = some (.slice A355_2 ((rd_T71 ((rd_T73 l0_6 x5_2).f1) x8_4).f2).length c355_2) ∧ w'.cell? (ad356.add ((x8_4).toNat * 3)) = some (.string ((rd_T71 ((rd_T73 l1_6 x5_2).f1) x8_4).f0)) ∧ w'.cell? ⟨(ad356.add ((x8_4).toNat * 3)).block, (ad356.add ((x8_4).toNat * 3)).off + 1, none⟩ = some (.int .u64 ((rd_T71 ((rd_T73 l1_6 x5_2).f1) x8_4).f1)) ∧ w'.cell? ⟨(ad356.add ((x8_4).toNat * 3)).block, (ad356.add ((x8_4).toNat * 3)).off + 2, none⟩ = some (.slice A356_2 ((rd_T71 ((rd_T73 l1_6 x5_2).f1) x8_4).f2).length c356_2)) (ds := []) #[false, false, false, false, false, false, false, false, false, false, false, false, false, false, false, false, false, false, false, false, false, false, false, false, false, false, false, false, false, false, false, false, false, false, false, false, false, false, false, false, false, false, false, false] (by kernel_rfl) rfl rfl ⟨ce BK353 0, ce BK353 1, ce BK354 0, ce BK354 1, ((HB.out.cell (World.block_lt_of_cell? w _ hw355_0)).trans hw355_0), ((HB.out.cell (World.block_lt_of_cell? w _ hw355_1)).trans hw355_1), ((HB.out.cell (World.block_lt_of_cell? w _ hw355_2)).trans hw355_2), ((HB.out.cell (World.block_lt_of_cell? w _ hw356_0)).trans hw356_0), ((HB.out.cell (World.block_lt_of_cell? w _ hw356_1)).trans hw356_1), ((HB.out.cell (World.block_lt_of_cell? w _ hw356_2)).trans hw356_2), ((HB.out.cell (World.block_lt_of_cell? w _ hw357_0)).trans hw357_0), ((HB.out.cell (World.block_lt_of_cell? w _ hw357_1)).trans hw357_1), ((HB.out.cell (World.block_lt_of_cell? w _ hw357_2)).trans hw357_2), ((HB.out.cell (World.block_lt_of_cell? w _ hw358_0)).trans hw358_0), ((HB.out.cell (World.block_lt_of_cell? w _ hw358_1)).trans hw358_1), ((HB.out.cell (World.block_lt_of_cell? w _ hw358_2)).trans hw358_2), ((HB.out.cell (World.block_lt_of_cell? w _ hw359_0)).trans hw359_0), ((HB.out.cell (World.block_lt_of_cell? w _ hw359_1)).trans hw359_1), ((HB.out.cell (World.block_lt_of_cell? w _ hw359_2)).trans hw359_2), ((HB.out.cell (World.block_lt_of_cell? w _ hw360_0)).trans hw360_0), ((HB.out.cell (World.block_lt_of_cell? w _ hw360_1)).trans hw360_1), ((HB.out.cell (World.block_lt_of_cell? w _ hw360_2)).trans hw360_2)⟩ (fun hHeld => ?_); refine with_tabW r22_Same.tab12 r22_Same.bits12 (fun HT_ HW_ => ?_)
                    generalize wr.drew = w76 at BK349 BK350 BK353 BK354 HB HR355_2 HR356_2 HR357_2 HR358_2 HR359_2 HR360_2 hx355_0 hx355_1 hx355_2 hx356_0 hx356_1 hx356_2 hx357_0 hx357_1 hx357_2 hx358_0 hx358_1 hx358_2 hx359_0 hx359_1 hx359_2 hx360_0 hx360_1 hx360_2 hHeld ⊢
                    refine pu 0 ?_
                    refine pu 2 ?_
                    refine pu 6 ?_
                    refine pu 8 ?_
                    refine ta 1 hHeld ?_
                    refine pu 3 ?_
                    refine pu 4 ?_
                    refine ta 5 hHeld ?_
                    refine ta 7 hHeld ?_
                    refine pu 9 ?_
                    refine pu 10 ?_
                    refine ta 11 hHeld ?_
                    refine pu 12 ?_
                    refine pu 13 ?_
                    refine pu 14 ?_
                    refine pu 16 ?_
                    refine pu 20 ?_
                    refine pu 22 ?_
                    refine ta 15 hHeld ?_
                    refine pu 17 ?_
                    refine pu 18 ?_
                    refine ta 19 hHeld ?_
                    refine ta 21 hHeld ?_
                    refine pu 23 ?_
                    refine pu 24 ?_
                    refine ta 25 hHeld ?_
                    refine pu 26 ?_
                    refine pu 27 ?_
                    refine pu 28 ?_
                    refine pu 29 ?_
                    refine pu 31 ?_
                    refine pu 35 ?_
                    refine pu 37 ?_
                    refine ta 30 hHeld ?_
                    refine pu 32 ?_
                    refine pu 33 ?_
                    refine ta 34 hHeld ?_
                    refine ta 36 hHeld ?_
                    refine pu 38 ?_
                    refine pu 39 ?_
                    refine ta 40 hHeld ?_
                    refine on1 41 (fun K hK => ?_)
                    refine gs Try.func33 #[.slice A355_2 ((rd_T71 ((rd_T73 l0_6 x5_2).f1) x8_4).f2).length c355_2, .slice A356_2 ((rd_T71 ((rd_T73 l1_6 x5_2).f1) x8_4).f2).length c356_2] ?_
                    with_reducible refine (r22_buckets.calls k4 _ _ ((rd_T71 ((rd_T73 l0_6 x5_2).f1) x8_4).f2) _ _ ((rd_T71 ((rd_T73 l1_6 x5_2).f1) x8_4).f2) false _ ?side1 ?side2 ?side3 ?side4 A65.out).mono ?_
                    (case side1 => repeat (first | exact (Kd.C_below HR359_2.out HB.out) | (with_reducible refine Kd.C_alloc ?_ _) | (with_reducible refine Kd.C_drewN ?_ _) | (with_reducible refine Kd.C_drew ?_)))
                    (case side2 => exact HC359_2.out)
                    (case side3 => repeat (first | exact (Kd.C_below HR360_2.out HB.out) | (with_reducible refine Kd.C_alloc ?_ _) | (with_reducible refine Kd.C_drewN ?_ _) | (with_reducible refine Kd.C_drew ?_)))
                    (case side4 => exact HC360_2.out)
                    rintro e w' ⟨rfl, ⟨nd, rfl⟩⟩
                    refine ⟨_, rfl, ?_⟩
                    refine hK.out _ _ ⟨ce BK353 0, ce BK353 1, ce BK354 0, ce BK354 1, ((HB.out.cell (World.block_lt_of_cell? w _ hw355_0)).trans hw355_0), ((HB.out.cell (World.block_lt_of_cell? w _ hw355_1)).trans hw355_1), ((HB.out.cell (World.block_lt_of_cell? w _ hw355_2)).trans hw355_2), ((HB.out.cell (World.block_lt_of_cell? w _ hw356_0)).trans hw356_0), ((HB.out.cell (World.block_lt_of_cell? w _ hw356_1)).trans hw356_1), ((HB.out.cell (World.block_lt_of_cell? w _ hw356_2)).trans hw356_2), ((HB.out.cell (World.block_lt_of_cell? w _ hw357_0)).trans hw357_0), ((HB.out.cell (World.block_lt_of_cell? w _ hw357_1)).trans hw357_1), ((HB.out.cell (World.block_lt_of_cell? w _ hw357_2)).trans hw357_2), ((HB.out.cell (World.block_lt_of_cell? w _ hw358_0)).trans hw358_0), ((HB.out.cell (World.block_lt_of_cell? w _ hw358_1)).trans hw358_1), ((HB.out.cell (World.block_lt_of_cell? w _ hw358_2)).trans hw358_2), ((HB.out.cell (World.block_lt_of_cell? w _ hw359_0)).trans hw359_0), ((HB.out.cell (World.block_lt_of_cell? w _ hw359_1)).trans hw359_1), ((HB.out.cell (World.block_lt_of_cell? w _ hw359_2)).trans hw359_2), ((HB.out.cell (World.block_lt_of_cell? w _ hw360_0)).trans hw360_0), ((HB.out.cell (World.block_lt_of_cell? w _ hw360_1)).trans hw360_1), ((HB.out.cell (World.block_lt_of_cell? w _ hw360_2)).trans hw360_2)⟩ (fun hHeld => ?_)
                    clear hK K
                    refine nm ?_
                    refine pu 42 ?_
                    refine pu 43 ?_
                    refine done_ (done_of HT_.out (by kernel_rfl)) ?_
                    try go_wp2
                    go_ret
                    exact ⟨by first | rfl | (simp [errW_none, errW_some] <;> rfl) | (simp [*, errW_none, errW_some] <;> rfl), pb HB⟩
                  ·rw [if_neg c64] at H;have c64b0 : (((rd_T71 ((rd_T73 l0_6 x5_2).f1) x8_4).f1) == ((rd_T71 ((rd_T73 l1_6 x5_2).f1) x8_4).f1)) = false := beq_eq_false_iff_ne.mpr c64;have c64b1 : (((rd_T71 ((rd_T73 l0_6 x5_2).f1) x8_4).f1) != ((rd_T71 ((rd_T73 l1_6 x5_2).f1) x8_4).f1)) = true := bne_iff_ne.mpr c64;obtain rfl := Option.some.inj H;have hnb77 := NB353_349.out;have hnc77 := NB349_353.out;have hnb78 := NB353_350.out;have hnc78 := NB350_353.out;have hnb79 := NB353_354.out;have hnc79 := NB354_353.out;obtain ⟨hcz80_0, hcz80_1, hfz80_0, hfz80_1⟩ := g2 BK353
                   try go_wp2
                   replace BK349 := am (blk_drew BK349.out);replace BK350 := am (blk_drew BK350.out);replace BK353 := am (blk_drew BK353.out);replace BK354 := am (blk_drew BK354.out);replace HB := am (below_drew1 HB.out);have p355 : 0 ≤ (x8_4 : Int) := of_decide_eq_true (by first | (with_reducible assumption) | assumption);have q355 : x8_4 < (((rd_T73 l0_6 x5_2).f1).length : Int) := of_decide_eq_true (by first | (with_reducible assumption) | assumption);obtain ⟨ad355, A355_2, c355_2, e355, hx355_0, hx355_1, hx355_2, hl355_2, hi355_2⟩ := at_T71 HR351_1.out x8_4 p355 q355;have hw355_2 := hx355_2;have hw355_1 := hx355_1;have hw355_0 := hx355_0;cases e355;replace hx355_0 := (HB.out.cell (World.block_lt_of_cell? w _ hx355_0)).trans hx355_0;replace hx355_1 := (HB.out.cell (World.block_lt_of_cell? w _ hx355_1)).trans hx355_1;replace hx355_2 := (HB.out.cell (World.block_lt_of_cell? w _ hx355_2)).trans hx355_2;have HR355_2 := am hi355_2;have HC355_2 := am hl355_2;clear hi355_2 hl355_2;replace p355 := eq_true p355;replace q355 := eq_true q355;have p356 : 0 ≤ (x8_4 : Int) := of_decide_eq_true (by first | (with_reducible assumption) | assumption);have q356 : x8_4 < (((rd_T73 l1_6 x5_2).f1).length : Int) := of_decide_eq_true (by first | (with_reducible assumption) | assumption);obtain ⟨ad356, A356_2, c356_2, e356, hx356_0, hx356_1, hx356_2, hl356_2, hi356_2⟩ := at_T71 HR352_1.out x8_4 p356 q356;have hw356_2 := hx356_2;have hw356_1 := hx356_1;have hw356_0 := hx356_0;cases e356;replace hx356_0 := (HB.out.cell (World.block_lt_of_cell? w _ hx356_0)).trans hx356_0;replace hx356_1 := (HB.out.cell (World.block_lt_of_cell? w _ hx356_1)).trans hx356_1;replace hx356_2 := (HB.out.cell (World.block_lt_of_cell? w _ hx356_2)).trans hx356_2;have HR356_2 := am hi356_2;have HC356_2 := am hl356_2;clear hi356_2 hl356_2;replace p356 := eq_true p356;replace q356 := eq_true q356;have p357 : 0 ≤ (x8_4 : Int) := of_decide_eq_true (by first | (with_reducible assumption) | assumption);have q357 : x8_4 < (((rd_T73 l0_6 x5_2).f1).length : Int) := of_decide_eq_true (by first | (with_reducible assumption) | assumption);obtain ⟨ad357, A357_2, c357_2, e357, hx357_0, hx357_1, hx357_2, hl357_2, hi357_2⟩ := at_T71 HR351_1.out x8_4 p357 q357;have hw357_2 := hx357_2;have hw357_1 := hx357_1;have hw357_0 := hx357_0;obtain rfl : ad355 = ad357 := (by injection e357);replace hx357_0 := (HB.out.cell (World.block_lt_of_cell? w _ hx357_0)).trans hx357_0;replace hx357_1 := (HB.out.cell (World.block_lt_of_cell? w _ hx357_1)).trans hx357_1;replace hx357_2 := (HB.out.cell (World.block_lt_of_cell? w _ hx357_2)).trans hx357_2;have HR357_2 := am hi357_2;have HC357_2 := am hl357_2;clear hi357_2 hl357_2;replace p357 := eq_true p357;replace q357 := eq_true q357;have ea_ := Option.some.inj (hx355_2.symm.trans hx357_2)
                   injection ea_ with ea_ en_ ec_
                   subst ea_;subst ec_;clear en_;have p358 : 0 ≤ (x8_4 : Int) := of_decide_eq_true (by first | (with_reducible assumption) | assumption);have q358 : x8_4 < (((rd_T73 l1_6 x5_2).f1).length : Int) := of_decide_eq_true (by first | (with_reducible assumption) | assumption);obtain ⟨ad358, A358_2, c358_2, e358, hx358_0, hx358_1, hx358_2, hl358_2, hi358_2⟩ := at_T71 HR352_1.out x8_4 p358 q358;have hw358_2 := hx358_2;have hw358_1 := hx358_1;have hw358_0 := hx358_0;obtain rfl : ad356 = ad358 := (by injection e358);replace hx358_0 := (HB.out.cell (World.block_lt_of_cell? w _ hx358_0)).trans hx358_0;replace hx358_1 := (HB.out.cell (World.block_lt_of_cell? w _ hx358_1)).trans hx358_1;replace hx358_2 := (HB.out.cell (World.block_lt_of_cell? w _ hx358_2)).trans hx358_2;have HR358_2 := am hi358_2;have HC358_2 := am hl358_2;clear hi358_2 hl358_2;replace p358 := eq_true p358;replace q358 := eq_true q358;have ea_ := Option.some.inj (hx356_2.symm.trans hx358_2)
                   injection ea_ with ea_ en_ ec_
                   subst ea_;subst ec_;clear en_
                   refine start_ (n := 44) (S := fun w' => w'.cell? ⟨gb353, 0, none⟩ = some (.int .i64 ((rd_T73 l0_6 x5_2).f0)) ∧ w'.cell? ⟨gb353, 1, none⟩ = some (.slice (some ad355) ((rd_T73 l0_6 x5_2).f1).length c351_1) ∧ w'.cell? ⟨gb354, 0, none⟩ = some (.int .i64 ((rd_T73 l1_6 x5_2).f0)) ∧ w'.cell? ⟨gb354, 1, none⟩ = some (.slice (some ad356) ((rd_T73 l1_6 x5_2).f1).length c352_1) ∧ w'.cell? (ad355.add ((x8_4).toNat * 3)) = some (.string ((rd_T71 ((rd_T73 l0_6 x5_2).f1) x8_4).f0)) ∧ w'.cell? ⟨(ad355.add ((x8_4).toNat * 3)).block, (ad355.add ((x8_4).toNat * 3)).off + 1, none⟩ = some (.int .u64 ((rd_T71 ((rd_T73 l0_6 x5_2).f1) x8_4).f1)) ∧ w'.cell? ⟨(ad355.add ((x8_4).toNat * 3)).block, (ad355.add ((x8_4).toNat * 3)).off + 2, none⟩ = some (.slice A355_2 ((rd_T71 ((rd_T73 l0_6 x5_2).f1) x8_4).f2).length c355_2) ∧ w'.cell? (ad356.add ((x8_4).toNat * 3)) = some (.string ((rd_T71 ((rd_T73 l1_6 x5_2).f1) x8_4).f0)) ∧ w'.cell? ⟨(ad356.add ((x8_4).toNat * 3)).block, (ad356.add ((x8_4).toNat * 3)).off + 1, none⟩ = some (.int .u64 ((rd_T71 ((rd_T73 l1_6 x5_2).f1) x8_4).f1)) ∧ w'.cell? ⟨(ad356.add ((x8_4).toNat * 3)).block, (ad356.add ((x8_4).toNat * 3)).off + 2, none⟩ = some (.slice A356_2 ((rd_T71 ((rd_T73 l1_6 x5_2).f1) x8_4).f2).length c356_2) ∧ w'.cell? (ad355.add ((x8_4).toNat * 3)) = some (.string ((rd_T71 ((rd_T73 l0_6 x5_2).f1) x8_4).f0)) ∧ w'.cell? ⟨(ad355.add ((x8_4).toNat * 3)).block, (ad355.add ((x8_4).toNat * 3)).off + 1, none⟩ = some (.int .u64 ((rd_T71 ((rd_T73 l0_6 x5_2).f1) x8_4).f1)) ∧ w'.cell? ⟨(ad355.add ((x8_4).toNat * 3)).block, (ad355.add ((x8_4).toNat * 3)).off + 2, none⟩ = some (.slice A355_2 ((rd_T71 ((rd_T73 l0_6 x5_2).f1) x8_4).f2).length c355_2) ∧ w'.cell? (ad356.add ((x8_4).toNat * 3)) = some (.string ((rd_T71 ((rd_T73 l1_6 x5_2).f1) x8_4).f0)) ∧ w'.cell? ⟨(ad356.add ((x8_4).toNat * 3)).block, (ad356.add ((x8_4).toNat * 3)).off + 1, none⟩ = some (.int .u64 ((rd_T71 ((rd_T73 l1_6 x5_2).f1) x8_4).f1)) ∧ w'.cell? ⟨(ad356.add ((x8_4).toNat * 3)).block, (ad356.add ((x8_4).toNat * 3)).off + 2, none⟩ = some (.slice A356_2 ((rd_T71 ((rd_T73 l1_6 x5_2).f1) x8_4).f2).length c356_2)) (ds := []) #[false, false, false, false, false, false, false, false, false, false, false, false, false, false, false, false, false, false, false, false, false, false, false, false, false, false, false, false, false, false, false, false, false, false, false, false, false, false, false, false, false, false, false, false] (by kernel_rfl) rfl rfl ⟨ce BK353 0, ce BK353 1, ce BK354 0, ce BK354 1, ((HB.out.cell (World.block_lt_of_cell? w _ hw355_0)).trans hw355_0), ((HB.out.cell (World.block_lt_of_cell? w _ hw355_1)).trans hw355_1), ((HB.out.cell (World.block_lt_of_cell? w _ hw355_2)).trans hw355_2), ((HB.out.cell (World.block_lt_of_cell? w _ hw356_0)).trans hw356_0), ((HB.out.cell (World.block_lt_of_cell? w _ hw356_1)).trans hw356_1), ((HB.out.cell (World.block_lt_of_cell? w _ hw356_2)).trans hw356_2), ((HB.out.cell (World.block_lt_of_cell? w _ hw357_0)).trans hw357_0), ((HB.out.cell (World.block_lt_of_cell? w _ hw357_1)).trans hw357_1), ((HB.out.cell (World.block_lt_of_cell? w _ hw357_2)).trans hw357_2), ((HB.out.cell (World.block_lt_of_cell? w _ hw358_0)).trans hw358_0), ((HB.out.cell (World.block_lt_of_cell? w _ hw358_1)).trans hw358_1), ((HB.out.cell (World.block_lt_of_cell? w _ hw358_2)).trans hw358_2)⟩ (fun hHeld => ?_); refine with_tabW r22_Same.tab12 r22_Same.bits12 (fun HT_ HW_ => ?_)
                   generalize wr.drew = w81 at BK349 BK350 BK353 BK354 HB HR355_2 HR356_2 HR357_2 HR358_2 hx355_0 hx355_1 hx355_2 hx356_0 hx356_1 hx356_2 hx357_0 hx357_1 hx357_2 hx358_0 hx358_1 hx358_2 hHeld ⊢
                   refine pu 0 ?_
                   refine pu 2 ?_
                   refine pu 6 ?_
                   refine pu 8 ?_
                   refine ta 1 hHeld ?_
                   refine pu 3 ?_
                   refine pu 4 ?_
                   refine ta 5 hHeld ?_
                   refine ta 7 hHeld ?_
                   refine pu 9 ?_
                   refine pu 10 ?_
                   refine ta 11 hHeld ?_
                   refine pu 12 ?_
                   refine pu 13 ?_
                   refine pu 14 ?_
                   refine pu 16 ?_
                   refine pu 20 ?_
                   refine pu 22 ?_
                   refine ta 15 hHeld ?_
                   refine pu 17 ?_
                   refine pu 18 ?_
                   refine ta 19 hHeld ?_
                   refine ta 21 hHeld ?_
                   refine pu 23 ?_
                   refine pu 24 ?_
                   refine ta 25 hHeld ?_
                   refine pu 26 ?_
                   refine pu 27 ?_
                   refine pu 28 ?_
                   refine po 29 ?_
                   refine po 30 ?_
                   refine po 31 ?_
                   refine po 32 ?_
                   refine po 33 ?_
                   refine po 34 ?_
                   refine po 35 ?_
                   refine po 36 ?_
                   refine po 37 ?_
                   refine po 38 ?_
                   refine po 39 ?_
                   refine po 40 ?_
                   refine po 41 ?_
                   refine po 42 ?_
                   refine pu 43 ?_
                   refine done_ (done_of HT_.out (by kernel_rfl)) ?_
                   try go_wp2
                   go_ret
                   exact ⟨by first | rfl | (simp [errW_none, errW_some] <;> rfl) | (simp [*, errW_none, errW_some] <;> rfl), pb HB⟩
                 ·rw [if_neg c63] at H;have c63b0 : (((rd_T71 ((rd_T73 l0_6 x5_2).f1) x8_4).f0).toList == ((rd_T71 ((rd_T73 l1_6 x5_2).f1) x8_4).f0).toList) = false := beq_eq_false_iff_ne.mpr c63;have c63b1 : (((rd_T71 ((rd_T73 l0_6 x5_2).f1) x8_4).f0).toList != ((rd_T71 ((rd_T73 l1_6 x5_2).f1) x8_4).f0).toList) = true := bne_iff_ne.mpr c63;obtain rfl := Option.some.inj H;have hnb82 := NB353_349.out;have hnc82 := NB349_353.out;have hnb83 := NB353_350.out;have hnc83 := NB350_353.out;have hnb84 := NB353_354.out;have hnc84 := NB354_353.out;obtain ⟨hcz85_0, hcz85_1, hfz85_0, hfz85_1⟩ := g2 BK353
                  try go_wp2
                  replace BK349 := am (blk_drew BK349.out);replace BK350 := am (blk_drew BK350.out);replace BK353 := am (blk_drew BK353.out);replace BK354 := am (blk_drew BK354.out);replace HB := am (below_drew1 HB.out);have p355 : 0 ≤ (x8_4 : Int) := of_decide_eq_true (by first | (with_reducible assumption) | assumption);have q355 : x8_4 < (((rd_T73 l0_6 x5_2).f1).length : Int) := of_decide_eq_true (by first | (with_reducible assumption) | assumption);obtain ⟨ad355, A355_2, c355_2, e355, hx355_0, hx355_1, hx355_2, hl355_2, hi355_2⟩ := at_T71 HR351_1.out x8_4 p355 q355;have hw355_2 := hx355_2;have hw355_1 := hx355_1;have hw355_0 := hx355_0;cases e355;replace hx355_0 := (HB.out.cell (World.block_lt_of_cell? w _ hx355_0)).trans hx355_0;replace hx355_1 := (HB.out.cell (World.block_lt_of_cell? w _ hx355_1)).trans hx355_1;replace hx355_2 := (HB.out.cell (World.block_lt_of_cell? w _ hx355_2)).trans hx355_2;have HR355_2 := am hi355_2;have HC355_2 := am hl355_2;clear hi355_2 hl355_2;replace p355 := eq_true p355;replace q355 := eq_true q355;have p356 : 0 ≤ (x8_4 : Int) := of_decide_eq_true (by first | (with_reducible assumption) | assumption);have q356 : x8_4 < (((rd_T73 l1_6 x5_2).f1).length : Int) := of_decide_eq_true (by first | (with_reducible assumption) | assumption);obtain ⟨ad356, A356_2, c356_2, e356, hx356_0, hx356_1, hx356_2, hl356_2, hi356_2⟩ := at_T71 HR352_1.out x8_4 p356 q356;have hw356_2 := hx356_2;have hw356_1 := hx356_1;have hw356_0 := hx356_0;cases e356;replace hx356_0 := (HB.out.cell (World.block_lt_of_cell? w _ hx356_0)).trans hx356_0;replace hx356_1 := (HB.out.cell (World.block_lt_of_cell? w _ hx356_1)).trans hx356_1;replace hx356_2 := (HB.out.cell (World.block_lt_of_cell? w _ hx356_2)).trans hx356_2;have HR356_2 := am hi356_2;have HC356_2 := am hl356_2;clear hi356_2 hl356_2;replace p356 := eq_true p356;replace q356 := eq_true q356
                  refine start_ (n := 44) (S := fun w' => w'.cell? ⟨gb353, 0, none⟩ = some (.int .i64 ((rd_T73 l0_6 x5_2).f0)) ∧ w'.cell? ⟨gb353, 1, none⟩ = some (.slice (some ad355) ((rd_T73 l0_6 x5_2).f1).length c351_1) ∧ w'.cell? ⟨gb354, 0, none⟩ = some (.int .i64 ((rd_T73 l1_6 x5_2).f0)) ∧ w'.cell? ⟨gb354, 1, none⟩ = some (.slice (some ad356) ((rd_T73 l1_6 x5_2).f1).length c352_1) ∧ w'.cell? (ad355.add ((x8_4).toNat * 3)) = some (.string ((rd_T71 ((rd_T73 l0_6 x5_2).f1) x8_4).f0)) ∧ w'.cell? ⟨(ad355.add ((x8_4).toNat * 3)).block, (ad355.add ((x8_4).toNat * 3)).off + 1, none⟩ = some (.int .u64 ((rd_T71 ((rd_T73 l0_6 x5_2).f1) x8_4).f1)) ∧ w'.cell? ⟨(ad355.add ((x8_4).toNat * 3)).block, (ad355.add ((x8_4).toNat * 3)).off + 2, none⟩ = some (.slice A355_2 ((rd_T71 ((rd_T73 l0_6 x5_2).f1) x8_4).f2).length c355_2) ∧ w'.cell? (ad356.add ((x8_4).toNat * 3)) = some (.string ((rd_T71 ((rd_T73 l1_6 x5_2).f1) x8_4).f0)) ∧ w'.cell? ⟨(ad356.add ((x8_4).toNat * 3)).block, (ad356.add ((x8_4).toNat * 3)).off + 1, none⟩ = some (.int .u64 ((rd_T71 ((rd_T73 l1_6 x5_2).f1) x8_4).f1)) ∧ w'.cell? ⟨(ad356.add ((x8_4).toNat * 3)).block, (ad356.add ((x8_4).toNat * 3)).off + 2, none⟩ = some (.slice A356_2 ((rd_T71 ((rd_T73 l1_6 x5_2).f1) x8_4).f2).length c356_2)) (ds := []) #[false, false, false, false, false, false, false, false, false, false, false, false, false, false, false, false, false, false, false, false, false, false, false, false, false, false, false, false, false, false, false, false, false, false, false, false, false, false, false, false, false, false, false, false] (by kernel_rfl) rfl rfl ⟨ce BK353 0, ce BK353 1, ce BK354 0, ce BK354 1, ((HB.out.cell (World.block_lt_of_cell? w _ hw355_0)).trans hw355_0), ((HB.out.cell (World.block_lt_of_cell? w _ hw355_1)).trans hw355_1), ((HB.out.cell (World.block_lt_of_cell? w _ hw355_2)).trans hw355_2), ((HB.out.cell (World.block_lt_of_cell? w _ hw356_0)).trans hw356_0), ((HB.out.cell (World.block_lt_of_cell? w _ hw356_1)).trans hw356_1), ((HB.out.cell (World.block_lt_of_cell? w _ hw356_2)).trans hw356_2)⟩ (fun hHeld => ?_); refine with_tabW r22_Same.tab12 r22_Same.bits12 (fun HT_ HW_ => ?_)
                  generalize wr.drew = w86 at BK349 BK350 BK353 BK354 HB HR355_2 HR356_2 hx355_0 hx355_1 hx355_2 hx356_0 hx356_1 hx356_2 hHeld ⊢
                  refine pu 0 ?_
                  refine pu 2 ?_
                  refine pu 6 ?_
                  refine pu 8 ?_
                  refine ta 1 hHeld ?_
                  refine pu 3 ?_
                  refine pu 4 ?_
                  refine ta 5 hHeld ?_
                  refine ta 7 hHeld ?_
                  refine pu 9 ?_
                  refine pu 10 ?_
                  refine ta 11 hHeld ?_
                  refine pu 12 ?_
                  refine pu 13 ?_
                  refine po 14 ?_
                  refine po 15 ?_
                  refine po 16 ?_
                  refine po 17 ?_
                  refine po 18 ?_
                  refine po 19 ?_
                  refine po 20 ?_
                  refine po 21 ?_
                  refine po 22 ?_
                  refine po 23 ?_
                  refine po 24 ?_
                  refine po 25 ?_
                  refine po 26 ?_
                  refine pu 27 ?_
                  refine pu 28 ?_
                  refine po 29 ?_
                  refine po 30 ?_
                  refine po 31 ?_
                  refine po 32 ?_
                  refine po 33 ?_
                  refine po 34 ?_
                  refine po 35 ?_
                  refine po 36 ?_
                  refine po 37 ?_
                  refine po 38 ?_
                  refine po 39 ?_
                  refine po 40 ?_
                  refine po 41 ?_
                  refine po 42 ?_
                  refine pu 43 ?_
                  refine done_ (done_of HT_.out (by kernel_rfl)) ?_
                  try go_wp2
                  go_ret
                  exact ⟨by first | rfl | (simp [errW_none, errW_some] <;> rfl) | (simp [*, errW_none, errW_some] <;> rfl), pb HB⟩
                ·rw [if_neg c62] at H;exact absurd H (by simp)
               ·rw [if_neg c61] at H;exact absurd H (by simp)
              ·rw [if_neg c60] at H;have c60b0 : decide (x8_4 < (((rd_T73 l0_6 x5_2).f1).length : Int)) = false := decide_eq_false c60;clear c60;have H' := am H;clear H;have hnb87 := NB353_349.out;have hnc87 := NB349_353.out;have hnb88 := NB353_350.out;have hnc88 := NB350_353.out;have hnb89 := NB353_354.out;have hnc89 := NB354_353.out;obtain ⟨hcz90_0, hcz90_1, hfz90_0, hfz90_1⟩ := g2 BK353
               go_wp2
               go_roundg k4
               case measure => have := HJ2.out; have := HK2.out; have := HJ32.out; have := HK4.out; omega
               case rel => exact ⟨(wrap64 (x5_2 + 1)), (by first | rfl | (simp; done) | (simp [*]; done)), H', ⟨by have := HJ2.out; have := HK2.out; have := HJ32.out; have := HK4.out; omega⟩, ⟨pk BK349.out⟩, ⟨pk BK350.out⟩, ⟨pb HB⟩⟩
        ·rw [if_neg c32] at H;exact absurd H (by simp)
       ·rw [if_neg c31] at H;exact absurd H (by simp)
      ·rw [if_neg c30] at H;have c30b0 : decide (x5_2 < (l0_6.length : Int)) = false := decide_eq_false c30;clear c30;obtain rfl := Option.some.inj H;have hnb91 := NB349_350.out;have hnc91 := NB350_349.out;obtain ⟨hcz92_0, hcz92_1, hcz92_2, hcz92_3, hcz92_4, hcz92_5, hcz92_6, hfz92_0, hfz92_1, hfz92_2, hfz92_3, hfz92_4, hfz92_5, hfz92_6⟩ := g7 BK349
       go_wp2
       go_ret
       exact ⟨by first | rfl | (simp [errW_none, errW_some] <;> rfl) | (simp [*, errW_none, errW_some] <;> rfl), pb HB⟩
end Go.Proofs.Ytagcobdpojeiiaa.H
