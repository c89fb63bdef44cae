import Derived.Test.YtmfffbafldbihaaHx0
import Derived.Test.YtmfffbafldbihaaHx17
import Derived.Test.YtmfffbafldbihaaHx20
namespace Go.Proofs.Ytmfffbafldbihaa.H
open Go.RowKit Go.Proofs.YtmfffbafldbihaaW.PrintWords Go.Proofs.YtmfffbafldbihaaW.PrintLast Go.Proofs.YtmfffbafldbihaaW.PrintMore Go.Proofs.YtmfffbafldbihaaW.Sq
attribute [local go_sem] max2_int min2_int max_two min_two max_three min_three max_four min_four
set_option linter.unusedVariables false
set_option linter.unusedSimpArgs false

mutual
def r14_Model.l0 : Nat → List ByteArray → List (S50) → Int → List (S60) → Int → Int → Int → Option ((List (S60)) × Bool)
 | 0, _, _, _, _, _, _, _ => none
 | k + 1, x1, x2, x3, x10, x11, x320000, x320001 => if x11 < (x1.length : Int) then (if 0 ≤ x11 then ((r05_Sum.f k x320000 x320001 (rdOf ByteArray.empty x1 x11)).bind fun t325 => (if x11 < (x2.length : Int) then (r14_Model.l1 k x1 x2 x3 x10 x11 0 x320000 x320001 (rdOf ByteArray.empty x1 x11) t325 ((rd_T50 x2 x11).f0) ((rd_T50 x2 x11).f1)) else (none))) else (none)) else (if (x10.length : Int) > x3 then (if 0 ≤ x3 then (if x3 ≤ (x10.length : Int) then (some ((x10.take (x3 : Int).toNat), true)) else (none)) else (none)) else (some (x10, true)))
def r14_Model.j2 : Nat → List ByteArray → List (S50) → Int → List (S60) → Int → Int → Int → Int → ByteArray → Int → Int → Int → Option ((List (S60)) × Bool)
 | 0, _, _, _, _, _, _, _, _, _, _, _, _ => none
 | k + 1, x1, x2, x3, x10, x11, x13, x320000, x320001, x328000, x328001, x328002, x328003 => if x13 < (x10.length : Int) then (if 0 ≤ x13 then (r14_Model.j3 k x1 x2 x3 x10 x11 x13 (((rd_T60 x10 x13).f0).toList == x328000.toList) x320000 x320001 x328000 x328001 x328002 x328003) else (none)) else (r14_Model.j3 k x1 x2 x3 x10 x11 x13 false x320000 x320001 x328000 x328001 x328002 x328003)
def r14_Model.j3 : Nat → List ByteArray → List (S50) → Int → List (S60) → Int → Int → Bool → Int → Int → ByteArray → Int → Int → Int → Option ((List (S60)) × Bool)
 | 0, _, _, _, _, _, _, _, _, _, _, _, _, _ => none
 | k + 1, x1, x2, x3, x10, x11, x13, x14, x320000, x320001, x328000, x328001, x328002, x328003 => if x14 = true then (if 0 ≤ x13 then (if x13 < (x10.length : Int) then ((r01_Add.f ((rd_T60 x10 x13).f2.f0) ((rd_T60 x10 x13).f2.f1) x328002 x328003).bind fun bt332 => (if bt332.2.2 = true then (r14_Model.l0 k x1 x2 x3 (x10.set (x13 : Int).toNat (⟨(rd_T60 x10 x13).f0, (rd_T60 x10 x13).f1, (⟨bt332.1, bt332.2.1⟩ : S50)⟩ : S60)) (wrap64 (x11 + 1)) x320000 x320001) else (some (([] : List (S60)), false)))) else (none)) else (none)) else (if 0 ≤ x13 then (if x13 ≤ (x10.length : Int) then ((some (x10.take (x13 : Int).toNat : List (S60))).bind fun y337 => (if ([] : List (S60)).length + y337.length < 3518437208883 then ((some (([] : List (S60)) ++ y337 : List (S60))).bind fun y341 => (if y341.length < 3518437208883 then ((some (y341 ++ [(⟨x328000, x328001, (⟨x328002, x328003⟩ : S50)⟩ : S60)] : List (S60))).bind fun y344 => ((some (x10.drop (x13 : Int).toNat : List (S60))).bind fun y347 => (if y344.length + y347.length < 3518437208883 then (r14_Model.l0 k x1 x2 x3 (y344 ++ y347) (wrap64 (x11 + 1)) x320000 x320001) else (none)))) else (none))) else (none))) else (none)) else (none))
def r14_Model.l1 : Nat → List ByteArray → List (S50) → Int → List (S60) → Int → Int → Int → Int → ByteArray → Int → Int → Int → Option ((List (S60)) × Bool)
 | 0, _, _, _, _, _, _, _, _, _, _, _, _ => none
 | k + 1, x1, x2, x3, x10, x11, x13, x320000, x320001, x328000, x328001, x328002, x328003 => if x13 < (x10.length : Int) then (if 0 ≤ x13 then ((r14_Ahead.f ((rd_T60 x10 x13).f0) ((rd_T60 x10 x13).f1) ((rd_T60 x10 x13).f2.f0) ((rd_T60 x10 x13).f2.f1) x328000 x328001 x328002 x328003).bind fun t329 => (if t329 = true then (r14_Model.l1 k x1 x2 x3 x10 x11 (wrap64 (x13 + 1)) x320000 x320001 x328000 x328001 x328002 x328003) else (r14_Model.j2 k x1 x2 x3 x10 x11 x13 x320000 x320001 x328000 x328001 x328002 x328003))) else (none)) else (r14_Model.j2 k x1 x2 x3 x10 x11 x13 x320000 x320001 x328000 x328001 x328002 x328003)
end
def r14_Model.f (k : Nat) (a0_0 : Int) (a0_1 : Int) (l1 : List ByteArray) (l2 : List (S50)) (a3 : Int) : Option ((List (S60)) × Bool) := r14_Model.l0 k l1 l2 a3 ([] : List (S60)) 0 a0_0 a0_1
theorem r14_Model.mono_l : ∀ k, (∀ y0 y1 y2 y3 y4 y5 y6, LeO (r14_Model.l0 k y0 y1 y2 y3 y4 y5 y6) (r14_Model.l0 (k + 1) y0 y1 y2 y3 y4 y5 y6)) ∧ (∀ y0 y1 y2 y3 y4 y5 y6 y7 y8 y9 y10 y11, LeO (r14_Model.j2 k y0 y1 y2 y3 y4 y5 y6 y7 y8 y9 y10 y11) (r14_Model.j2 (k + 1) y0 y1 y2 y3 y4 y5 y6 y7 y8 y9 y10 y11)) ∧ (∀ y0 y1 y2 y3 y4 y5 y6 y7 y8 y9 y10 y11 y12, LeO (r14_Model.j3 k y0 y1 y2 y3 y4 y5 y6 y7 y8 y9 y10 y11 y12) (r14_Model.j3 (k + 1) y0 y1 y2 y3 y4 y5 y6 y7 y8 y9 y10 y11 y12)) ∧ (∀ y0 y1 y2 y3 y4 y5 y6 y7 y8 y9 y10 y11, LeO (r14_Model.l1 k y0 y1 y2 y3 y4 y5 y6 y7 y8 y9 y10 y11) (r14_Model.l1 (k + 1) y0 y1 y2 y3 y4 y5 y6 y7 y8 y9 y10 y11))
 | 0 => ⟨fun _ _ _ _ _ _ _ r h => by simp [r14_Model.l0] at h, fun _ _ _ _ _ _ _ _ _ _ _ _ r h => by simp [r14_Model.j2] at h, fun _ _ _ _ _ _ _ _ _ _ _ _ _ r h => by simp [r14_Model.j3] at h, fun _ _ _ _ _ _ _ _ _ _ _ _ r h => by simp [r14_Model.l1] at h⟩
 | k + 1 => by
  obtain ⟨ih0, ih1, ih2, ih3⟩ := r14_Model.mono_l k
  refine ⟨?_, ?_, ?_, ?_⟩
  ·intro y0 y1 y2 y3 y4 y5 y6
   unfold r14_Model.l0
   repeat' first
   | (with_reducible exact ih0 _ _ _ _ _ _ _)
   | (with_reducible exact ih1 _ _ _ _ _ _ _ _ _ _ _ _)
   | (with_reducible exact ih2 _ _ _ _ _ _ _ _ _ _ _ _ _)
   | (with_reducible exact ih3 _ _ _ _ _ _ _ _ _ _ _ _)
   | (with_reducible exact r05_Sum.mono _ _ _ _)
   | (with_reducible exact LeO.refl _)
   | (with_reducible exact LeO.none _)
   | (with_reducible refine LeO.ite ?_ ?_)
   | (with_reducible refine LeO.bind ?_ (fun _ => ?_))
  ·intro y0 y1 y2 y3 y4 y5 y6 y7 y8 y9 y10 y11
   unfold r14_Model.j2
   repeat' first
   | (with_reducible exact ih0 _ _ _ _ _ _ _)
   | (with_reducible exact ih1 _ _ _ _ _ _ _ _ _ _ _ _)
   | (with_reducible exact ih2 _ _ _ _ _ _ _ _ _ _ _ _ _)
   | (with_reducible exact ih3 _ _ _ _ _ _ _ _ _ _ _ _)
   | (with_reducible exact r05_Sum.mono _ _ _ _)
   | (with_reducible exact LeO.refl _)
   | (with_reducible exact LeO.none _)
   | (with_reducible refine LeO.ite ?_ ?_)
   | (with_reducible refine LeO.bind ?_ (fun _ => ?_))
  ·intro y0 y1 y2 y3 y4 y5 y6 y7 y8 y9 y10 y11 y12
   unfold r14_Model.j3
   repeat' first
   | (with_reducible exact ih0 _ _ _ _ _ _ _)
   | (with_reducible exact ih1 _ _ _ _ _ _ _ _ _ _ _ _)
   | (with_reducible exact ih2 _ _ _ _ _ _ _ _ _ _ _ _ _)
   | (with_reducible exact ih3 _ _ _ _ _ _ _ _ _ _ _ _)
   | (with_reducible exact r05_Sum.mono _ _ _ _)
   | (with_reducible exact LeO.refl _)
   | (with_reducible exact LeO.none _)
   | (with_reducible refine LeO.ite ?_ ?_)
   | (with_reducible refine LeO.bind ?_ (fun _ => ?_))
  ·intro y0 y1 y2 y3 y4 y5 y6 y7 y8 y9 y10 y11
   unfold r14_Model.l1
   repeat' first
   | (with_reducible exact ih0 _ _ _ _ _ _ _)
   | (with_reducible exact ih1 _ _ _ _ _ _ _ _ _ _ _ _)
   | (with_reducible exact ih2 _ _ _ _ _ _ _ _ _ _ _ _ _)
   | (with_reducible exact ih3 _ _ _ _ _ _ _ _ _ _ _ _)
   | (with_reducible exact r05_Sum.mono _ _ _ _)
   | (with_reducible exact LeO.refl _)
   | (with_reducible exact LeO.none _)
   | (with_reducible refine LeO.ite ?_ ?_)
   | (with_reducible refine LeO.bind ?_ (fun _ => ?_))
theorem r14_Model.mono : ∀ a0 a1 a2 a3 a4 k, LeO (r14_Model.f k a0 a1 a2 a3 a4) (r14_Model.f (k + 1) a0 a1 a2 a3 a4) := by
 intro a0 a1 a2 a3 a4 k
 obtain ⟨ih0, ih1, ih2, ih3⟩ := r14_Model.mono_l k
 unfold r14_Model.f
 repeat' first
   | (with_reducible exact ih0 _ _ _ _ _ _ _)
   | (with_reducible exact ih1 _ _ _ _ _ _ _ _ _ _ _ _)
   | (with_reducible exact ih2 _ _ _ _ _ _ _ _ _ _ _ _ _)
   | (with_reducible exact ih3 _ _ _ _ _ _ _ _ _ _ _ _)
   | (with_reducible exact r05_Sum.mono _ _ _ _)
   | (with_reducible exact LeO.refl _)
   | (with_reducible exact LeO.none _)
   | (with_reducible refine LeO.ite ?_ ?_)
   | (with_reducible refine LeO.bind ?_ (fun _ => ?_))
def r14_Model.T5 : Bool × List (List Nat × List Nat) := (true, [([], []), ([], []), ([0, 1], [0, 1]), ([2], [2]), ([], []), ([], []), ([], []), ([5, 6], [5, 6]), ([7], [7]), ([4, 8], [4, 8]), ([], []), ([], []), ([10, 11], [10, 11]), ([12], [12]), ([3, 9, 13], [3, 9, 13]), ([], []), ([15, 14, 9, 0, 1, 2, 3, 4, 5, 6, 7, 8, 9, 10, 11, 12, 13, 14, 15], [14, 15])])
def r14_Model.B5 : List Nat := [0, 0, 3, 7, 0, 0, 0, 96, 224, 496, 0, 0, 3072, 7168, 16383, 0, 65535]
theorem r14_Model.tab5 : rtab .any (opsOf Try.f19 5) = r14_Model.T5 := by kernel_rfl
theorem r14_Model.bits5 : waitsOk r14_Model.T5.2 r14_Model.B5 = true := by kernel_rfl
def r14_Model.T7 : Bool × List (List Nat × List Nat) := (true, [([], []), ([], []), ([1], [1]), ([0, 2], [0, 2]), ([3], [3]), ([4], [4]), ([4], [4]), ([5, 6, 4], [4, 5, 6]), ([7, 4], [4, 7]), ([4], [4]), ([8, 9, 4, 4], [4, 8, 9]), ([4, 10], [4, 10])])
def r14_Model.B7 : List Nat := [0, 0, 2, 7, 15, 31, 31, 127, 255, 31, 1023, 2047]
theorem r14_Model.tab7 : rtab .any (opsOf Try.f19 7) = r14_Model.T7 := by kernel_rfl
theorem r14_Model.bits7 : waitsOk r14_Model.T7.2 r14_Model.B7 = true := by kernel_rfl
def r14_Model.T9 : Bool × List (List Nat × List Nat) := (true, [([], []), ([], []), ([1], [1]), ([0, 2], [0, 2]), ([3], [3]), ([4], [4]), ([4], [4]), ([5, 6, 4], [4, 5, 6]), ([7, 4], [4, 7]), ([8, 4], [4, 8]), ([4], [4]), ([10, 4], [4, 10]), ([9, 11, 4], [4, 9, 11]), ([4, 12], [4, 12]), ([13, 4, 0, 1, 2, 3, 4, 5, 6, 7, 8, 9, 10, 11, 12, 13], [13])])
def r14_Model.B9 : List Nat := [0, 0, 2, 7, 15, 31, 31, 127, 255, 511, 31, 1055, 4095, 8191, 16383]
theorem r14_Model.tab9 : rtab .any (opsOf Try.f19 9) = r14_Model.T9 := by kernel_rfl
theorem r14_Model.bits9 : waitsOk r14_Model.T9.2 r14_Model.B9 = true := by kernel_rfl
def r14_Model.T11 : Bool × List (List Nat × List Nat) := (true, [([], []), ([], []), ([0, 1], [0, 1]), ([2], [2]), ([3], [3]), ([], []), ([5], [5]), ([4, 6], [4, 6]), ([7], [7]), ([8], [8]), ([8], [8]), ([], []), ([11, 9, 7, 0, 1, 2, 3, 4, 5, 6, 7, 8, 9, 11], [9, 11]), ([10, 12, 0, 1, 2, 3, 4, 5, 6, 7, 8, 9, 10, 11, 12], [10])])
def r14_Model.B11 : List Nat := [0, 0, 3, 7, 15, 0, 32, 127, 255, 511, 511, 0, 3071, 8191]
theorem r14_Model.tab11 : rtab .any (opsOf Try.f19 11) = r14_Model.T11 := by kernel_rfl
theorem r14_Model.bits11 : waitsOk r14_Model.T11.2 r14_Model.B11 = true := by kernel_rfl
set_option maxHeartbeats 8000000 in
set_option maxRecDepth 100000 in
theorem r14_Model.calls (k : Nat) (a0_0 : Int) (a0_1 : Int) (A1 : Option Addr) (c1 : Nat) (l1 : List ByteArray) (A2 : Option Addr) (c2 : Nat) (l2 : List (S50)) (a3 : Int) (r1 : List (S60)) (r2 : Bool) (w : World) (hr1 : Kd.C Kd.string w A1 l1.length l1) (hc1 : l1.length ≤ c1) (hr2 : Kd.C k50 w A2 l2.length l2) (hc2 : l2.length ≤ c2) (h : r14_Model.f k a0_0 a0_1 l1 l2 a3 = some (r1, r2)) :
  Calls Try.prog 19 #[.agg #[.int .u64 a0_0, .int .u64 a0_1], .slice A1 l1.length c1, .slice A2 l2.length c2, .int .i64 a3] w fun e w' => ∃ v0_ : Value, e = .returned (.tuple #[v0_, .bool r2]) ∧ Kd.R k60 60 w' w.heap.size (fun _ => True) v0_ r1 ∧ Below w.heap.size w w' := by
 have hu24 := Try.underlying24;have hu50 := Try.underlying50;have hu60 := Try.underlying60;have HR1 := am hr1;have HC1 := am hc1;clear hr1 hc1;have HR2 := am hr2;have HC2 := am hc2;clear hr2 hc2;have HB := am (Below.refl w.heap.size w);have H : (r14_Model.l0 k l1 l2 a3 ([] : List (S60)) 0 a0_0 a0_1) = some (r1, r2) := h;clear h;have H' := am H;clear H
 go_enter Try.func19, Try.ntmps19
 go_wp2_with (first | ((with_reducible refine gate_dst (N := 4) rfl ?_); refine be 4 #[.int .u64 a0_0, .int .u64 a0_1] 24 ?_; intro gb319 hg w5 hbox hb; have BK319 := am (hbox); have GW319 := am ((pg hg HB : w.heap.size ≤ gb319)); have GE319 := am ((pg hg HB : w.heap.size ≤ gb319)); replace HB := am (below_step (pb HB) hb); clear hb hbox hg))
 go_loopg [10, 11] k (fun kq v10 v11 w' => ∃ (x10_1 : List (S60)) (x11_1 : Int), v11 = .int .i64 x11_1 ∧ Aside0 (r14_Model.l0 kq l1 l2 a3 x10_1 x11_1 a0_0 a0_1 = some (r1, r2)) ∧ Aside0 (kq ≤ k) ∧ Aside0 (Kd.R k60 60 w' w.heap.size (fun _ => True) v10 x10_1) ∧ Aside0 (w'.heap[gb319]? = some (.cells #[.int .u64 a0_0, .int .u64 a0_1] 24 (0, 0))) ∧ Aside0 (Below w.heap.size w w'))
 case atStart => exact ⟨(([] : List (S60))), (0), (by first | rfl | (simp; done) | (simp [*]; done)), H', ⟨Nat.le_refl _⟩, ⟨by first | exact Kd.R_nil _ _ _ _ _ | exact Kd.N_nil _ _ _ _ _ | exact Kd.V_nil _ _ _ _ _ | exact Kd.Q_nil _ _ _ _ _ | exact Kd.S_nil _ _ _ _ _⟩, ⟨pk BK319.out⟩, ⟨pb HB⟩⟩
 case round =>
  clear H';(try clear c1);(try clear c2);(try clear p2);obtain ⟨x10_1, x11_1, rfl, HA, HK1, HO_10, BK319, HB⟩ := hrel
  cases gk with
  | zero => exact absurd HA.out (by simp [r14_Model.l0])
  | succ k1 =>
   have H := HA.out;clear HA
   simp only [r14_Model.l0] at H
   by_cases c6 : x11_1 < (l1.length : Int)
   ·rw [if_pos c6] at H;have c6b0 : decide (x11_1 < (l1.length : Int)) = true := decide_eq_true c6;clear c6
    by_cases c7 : 0 ≤ x11_1
    ·rw [if_pos c7] at H;have c7b0 : decide (0 ≤ x11_1) = true := decide_eq_true c7;clear c7;replace H := Option.bind_eq_some_iff.mp H;obtain ⟨t325, A80, H⟩ := H
     try dsimp only at H
     have A8 := am A80;clear A80
     by_cases c9 : x11_1 < (l2.length : Int)
     ·rw [if_pos c9] at H;have c9b0 : decide (x11_1 < (l2.length : Int)) = true := decide_eq_true c9;clear c9;have HC10 := am H;clear H
      try go_wp2
      replace HO_10 := am (Kd.R_drew HO_10.out);replace BK319 := am (blk_drew BK319.out);replace HB := am (below_drew1 HB.out);have p323 : 0 ≤ (x11_1 : Int) := of_decide_eq_true (by first | (with_reducible assumption) | assumption);have q323 : x11_1 < (l1.length : Int) := of_decide_eq_true (by first | (with_reducible assumption) | assumption);obtain ⟨ad323, e323, hx323_0⟩ := Kd.at_string HR1.out x11_1 p323 q323;have hw323_0 := hx323_0;cases e323;replace hx323_0 := (HB.out.cell (World.block_lt_of_cell? w _ hx323_0)).trans hx323_0;replace p323 := eq_true p323;replace q323 := eq_true q323;have p324 : 0 ≤ (x11_1 : Int) := of_decide_eq_true (by first | (with_reducible assumption) | assumption);have q324 : x11_1 < (l1.length : Int) := of_decide_eq_true (by first | (with_reducible assumption) | assumption);obtain ⟨ad324, e324, hx324_0⟩ := Kd.at_string HR1.out x11_1 p324 q324;have hw324_0 := hx324_0;obtain rfl : ad323 = ad324 := (by injection e324);replace hx324_0 := (HB.out.cell (World.block_lt_of_cell? w _ hx324_0)).trans hx324_0;replace p324 := eq_true p324;replace q324 := eq_true q324;have p326 : 0 ≤ (x11_1 : Int) := of_decide_eq_true (by first | (with_reducible assumption) | assumption);have q326 : x11_1 < (l2.length : Int) := of_decide_eq_true (by first | (with_reducible assumption) | assumption);obtain ⟨ad326, e326, hx326_0, hx326_1⟩ := at_T50 HR2.out x11_1 p326 q326;have hw326_1 := hx326_1;have hw326_0 := hx326_0;cases e326;replace hx326_0 := (HB.out.cell (World.block_lt_of_cell? w _ hx326_0)).trans hx326_0;replace hx326_1 := (HB.out.cell (World.block_lt_of_cell? w _ hx326_1)).trans hx326_1;replace p326 := eq_true p326;replace q326 := eq_true q326
      refine start_ (n := 17) (S := fun w' => w'.cell? ⟨gb319, 0, none⟩ = some (.int .u64 a0_0) ∧ w'.cell? ⟨gb319, 1, none⟩ = some (.int .u64 a0_1) ∧ w'.cell? (ad323.add (x11_1).toNat) = some (.string (rdOf ByteArray.empty l1 x11_1)) ∧ w'.cell? (ad323.add (x11_1).toNat) = some (.string (rdOf ByteArray.empty l1 x11_1)) ∧ w'.cell? (ad326.add ((x11_1).toNat * 2)) = some (.int .u64 ((rd_T50 l2 x11_1).f0)) ∧ w'.cell? ⟨(ad326.add ((x11_1).toNat * 2)).block, (ad326.add ((x11_1).toNat * 2)).off + 1, none⟩ = some (.int .u64 ((rd_T50 l2 x11_1).f1))) (ds := []) #[false, false, false, false, false, false, false, false, false, false, false, false, false, false, false, false, false] (by kernel_rfl) rfl rfl ⟨ce BK319 0, ce BK319 1, ((HB.out.cell (World.block_lt_of_cell? w _ hw323_0)).trans hw323_0), ((HB.out.cell (World.block_lt_of_cell? w _ hw324_0)).trans hw324_0), ((HB.out.cell (World.block_lt_of_cell? w _ hw326_0)).trans hw326_0), ((HB.out.cell (World.block_lt_of_cell? w _ hw326_1)).trans hw326_1)⟩ (fun hHeld => ?_); refine with_tabW r14_Model.tab5 r14_Model.bits5 (fun HT_ HW_ => ?_)
      generalize wr.drew = w11 at HO_10 BK319 HB hx323_0 hx324_0 hx326_0 hx326_1 hHeld ⊢
      refine pu 0 ?_
      refine pu 1 ?_
      refine pu 2 ?_
      refine pu 5 ?_
      refine pu 6 ?_
      refine pu 7 ?_
      refine pu 10 ?_
      refine pu 11 ?_
      refine pu 12 ?_
      refine ta 3 hHeld ?_
      refine ta 4 hHeld ?_
      refine ta 8 hHeld ?_
      refine ta 13 hHeld ?_
      refine join_ (σ := Nat) 1 #[true, true, true, true, true, true, true, true, true, true, true, true, true, true, true, true, false] (fun s_ => [(33, .int .u64 t325), (12, .pointer (some ⟨s_, 0, none⟩)), (38, .agg #[.string (rdOf ByteArray.empty l1 x11_1), .int .u64 t325, .int .u64 ((rd_T50 l2 x11_1).f0), .int .u64 ((rd_T50 l2 x11_1).f1)])]) (fun s_ w' => (w'.cell? ⟨gb319, 0, none⟩ = some (.int .u64 a0_0) ∧ w'.cell? ⟨gb319, 1, none⟩ = some (.int .u64 a0_1) ∧ w'.cell? (ad323.add (x11_1).toNat) = some (.string (rdOf ByteArray.empty l1 x11_1)) ∧ w'.cell? (ad323.add (x11_1).toNat) = some (.string (rdOf ByteArray.empty l1 x11_1)) ∧ w'.cell? (ad326.add ((x11_1).toNat * 2)) = some (.int .u64 ((rd_T50 l2 x11_1).f0)) ∧ w'.cell? ⟨(ad326.add ((x11_1).toNat * 2)).block, (ad326.add ((x11_1).toNat * 2)).off + 1, none⟩ = some (.int .u64 ((rd_T50 l2 x11_1).f1))) ∧ (Kd.R k60 60 w' w.heap.size (fun k_ => k_ ≠ s_) u10 x10_1) ∧ (w'.heap[gb319]? = some (.cells #[.int .u64 a0_0, .int .u64 a0_1] 24 (0, 0))) ∧ (w'.heap[s_]? = some (.cells #[.string (⟨#[]⟩ : ByteArray), .int .u64 0, .int .u64 0, .int .u64 0] 60 (0, 0))) ∧ (w.heap.size ≤ s_) ∧ (w.heap.size ≤ s_) ∧ (gb319 ≠ s_) ∧ (s_ ≠ gb319) ∧ (Below w.heap.size w w')) ?_ ?_
      rotate_left
      ·intro hCont
       refine two_ (i := 9) (j := 15) (Ni := some 33) (Nj := some 12) #[true, true, true, true, true, true, true, true, true, true, true, true, true, true, false, false, false] #[true, true, true, true, true, true, true, true, true, false, true, true, true, true, false, true, false] rfl rfl rfl rfl (two_of HT_.out (by kernel_rfl)) (by decide) (by decide) (fun K hK => ?_) (fun K hK => ?_)
       ·skip
        refine gs Try.func22 #[.agg #[.int .u64 a0_0, .int .u64 a0_1], .string (rdOf ByteArray.empty l1 x11_1)] ?_
        with_reducible refine (r05_Sum.calls k1 a0_0 a0_1 (rdOf ByteArray.empty l1 x11_1) t325 _ A8.out).mono ?_
        rintro e w12 ⟨rfl, hb⟩
        refine ⟨_, rfl, ?_⟩
        replace HO_10 := am (Kd.R_below (pr HO_10.out) hb);replace BK319 := am (blk_below (pk BK319.out) hb);replace HB := am (below_step (pb HB) hb)
        (try clear hb)
        (try clear hb2)
        (try clear hk)
        (try clear hi)
        refine hK.out _ _ ⟨ce BK319 0, ce BK319 1, ((HB.out.cell (World.block_lt_of_cell? w _ hw323_0)).trans hw323_0), ((HB.out.cell (World.block_lt_of_cell? w _ hw324_0)).trans hw324_0), ((HB.out.cell (World.block_lt_of_cell? w _ hw326_0)).trans hw326_0), ((HB.out.cell (World.block_lt_of_cell? w _ hw326_1)).trans hw326_1)⟩ (fun hHeld => ?_)
        clear hK K
        refine nm ?_
        refine pu 14 ?_
        refine on1 15 (fun K hK => ?_)
        refine bx 12 #[.string (⟨#[]⟩ : ByteArray), .int .u64 0, .int .u64 0, .int .u64 0] 60 ?_
        intro gb327 hg w13 hbox hb
        have n0_ := am (Kd.R_below (Kd.R_elderB (pr HO_10.out) gb327 (Nat.le_of_eq hg.symm)) hb);have n1_ := am (blk_below (pk BK319.out) hb);have n2_ := am (below_step (pb HB) hb);have n3_ := am (hbox);have n4_ := am ((pg hg HB : w.heap.size ≤ gb327));have n5_ := am ((pg hg HB : w.heap.size ≤ gb327));have n6_ := am ((pl hg (pk BK319.out) : gb319 ≠ gb327));have n7_ := am ((pl' hg (pk BK319.out) : gb327 ≠ gb319));clear HO_10 BK319 HB;have HO_10 := n0_;have BK319 := n1_;have HB := n2_;have BK327 := n3_;have GW327 := n4_;have GE327 := n5_;have NB319_327 := n6_;have NB327_319 := n7_;clear n0_ n1_ n2_ n3_ n4_ n5_ n6_ n7_ hb hbox hg
        refine hK.out _ _ ⟨ce BK319 0, ce BK319 1, ((HB.out.cell (World.block_lt_of_cell? w _ hw323_0)).trans hw323_0), ((HB.out.cell (World.block_lt_of_cell? w _ hw324_0)).trans hw324_0), ((HB.out.cell (World.block_lt_of_cell? w _ hw326_0)).trans hw326_0), ((HB.out.cell (World.block_lt_of_cell? w _ hw326_1)).trans hw326_1)⟩ (fun hHeld => ?_)
        clear hK K
        refine nm ?_
        exact nj (hCont (gb327) _ ⟨hHeld, (pr (Kd.R_mono HO_10.out (fun _ hk => hk.2))), (pk BK319.out), (pk BK327.out), GW327.out, GE327.out, NB319_327.out, NB327_319.out, (pb HB)⟩)
       ·skip
        refine bx 12 #[.string (⟨#[]⟩ : ByteArray), .int .u64 0, .int .u64 0, .int .u64 0] 60 ?_
        intro gb327 hg w12 hbox hb
        have n0_ := am (Kd.R_below (Kd.R_elderB (pr HO_10.out) gb327 (Nat.le_of_eq hg.symm)) hb);have n1_ := am (blk_below (pk BK319.out) hb);have n2_ := am (below_step (pb HB) hb);have n3_ := am (hbox);have n4_ := am ((pg hg HB : w.heap.size ≤ gb327));have n5_ := am ((pg hg HB : w.heap.size ≤ gb327));have n6_ := am ((pl hg (pk BK319.out) : gb319 ≠ gb327));have n7_ := am ((pl' hg (pk BK319.out) : gb327 ≠ gb319));clear HO_10 BK319 HB;have HO_10 := n0_;have BK319 := n1_;have HB := n2_;have BK327 := n3_;have GW327 := n4_;have GE327 := n5_;have NB319_327 := n6_;have NB327_319 := n7_;clear n0_ n1_ n2_ n3_ n4_ n5_ n6_ n7_ hb hbox hg
        refine hK.out _ _ ⟨ce BK319 0, ce BK319 1, ((HB.out.cell (World.block_lt_of_cell? w _ hw323_0)).trans hw323_0), ((HB.out.cell (World.block_lt_of_cell? w _ hw324_0)).trans hw324_0), ((HB.out.cell (World.block_lt_of_cell? w _ hw326_0)).trans hw326_0), ((HB.out.cell (World.block_lt_of_cell? w _ hw326_1)).trans hw326_1)⟩ (fun hHeld => ?_)
        clear hK K
        refine nm ?_
        refine on1 9 (fun K hK => ?_)
        refine gs Try.func22 #[.agg #[.int .u64 a0_0, .int .u64 a0_1], .string (rdOf ByteArray.empty l1 x11_1)] ?_
        with_reducible refine (r05_Sum.calls k1 a0_0 a0_1 (rdOf ByteArray.empty l1 x11_1) t325 _ A8.out).mono ?_
        rintro e w13 ⟨rfl, hb⟩
        refine ⟨_, rfl, ?_⟩
        replace HO_10 := am (Kd.R_below (pr HO_10.out) hb);replace BK319 := am (blk_below (pk BK319.out) hb);replace BK327 := am (blk_below (pk BK327.out) hb);replace HB := am (below_step (pb HB) hb)
        (try clear hb)
        (try clear hb2)
        (try clear hk)
        (try clear hi)
        refine hK.out _ _ ⟨ce BK319 0, ce BK319 1, ((HB.out.cell (World.block_lt_of_cell? w _ hw323_0)).trans hw323_0), ((HB.out.cell (World.block_lt_of_cell? w _ hw324_0)).trans hw324_0), ((HB.out.cell (World.block_lt_of_cell? w _ hw326_0)).trans hw326_0), ((HB.out.cell (World.block_lt_of_cell? w _ hw326_1)).trans hw326_1)⟩ (fun hHeld => ?_)
        clear hK K
        refine nm ?_
        refine pu 14 ?_
        exact nj (hCont (gb327) _ ⟨hHeld, (pr (Kd.R_mono HO_10.out (fun _ hk => hk.2))), (pk BK319.out), (pk BK327.out), GW327.out, GE327.out, NB319_327.out, NB327_319.out, (pb HB)⟩)
      rintro gb327 w14 ⟨hS_, h0_, h1_, h2_, h3_, h4_, h5_, h6_, h7_⟩
      replace HO_10 : Aside0 (Kd.R k60 60 w14 w.heap.size (fun k_ => k_ ≠ gb327) u10 x10_1) := ⟨h0_⟩;replace BK319 : Aside0 (w14.heap[gb319]? = some (.cells #[.int .u64 a0_0, .int .u64 a0_1] 24 (0, 0))) := ⟨h1_⟩;have BK327 : Aside0 (w14.heap[gb327]? = some (.cells #[.string (⟨#[]⟩ : ByteArray), .int .u64 0, .int .u64 0, .int .u64 0] 60 (0, 0))) := ⟨h2_⟩;have GW327 : Aside0 (w.heap.size ≤ gb327) := ⟨h3_⟩;have GE327 : Aside0 (w.heap.size ≤ gb327) := ⟨h4_⟩;have NB319_327 : Aside0 (gb319 ≠ gb327) := ⟨h5_⟩;have NB327_319 : Aside0 (gb327 ≠ gb319) := ⟨h6_⟩;replace HB : Aside0 (Below w.heap.size w w14) := ⟨h7_⟩;clear h0_ h1_ h2_ h3_ h4_ h5_ h6_ h7_;have hHeld : w14.cell? ⟨gb319, 0, none⟩ = some (.int .u64 a0_0) ∧ w14.cell? ⟨gb319, 1, none⟩ = some (.int .u64 a0_1) ∧ w14.cell? (ad323.add (x11_1).toNat) = some (.string (rdOf ByteArray.empty l1 x11_1)) ∧ w14.cell? (ad323.add (x11_1).toNat) = some (.string (rdOf ByteArray.empty l1 x11_1)) ∧ w14.cell? (ad326.add ((x11_1).toNat * 2)) = some (.int .u64 ((rd_T50 l2 x11_1).f0)) ∧ w14.cell? ⟨(ad326.add ((x11_1).toNat * 2)).block, (ad326.add ((x11_1).toNat * 2)).off + 1, none⟩ = some (.int .u64 ((rd_T50 l2 x11_1).f1)) := hS_
      refine norm_ (a' := ?_) ?_ ?_
      rotate_left
      ·simp only [putAll, Act.put, List.setIfInBounds_toArray, List.set_cons_zero, List.set_cons_succ]
       rfl
      refine one_ (i := 16) (N := none) #[true, true, true, true, true, true, true, true, true, true, true, true, true, true, true, true, true] rfl rfl (one_of HT_.out (by kernel_rfl)) (by decide) (fun K hK => ?_)
      have hs15 : w14.cell? ⟨gb327, 0, none⟩ = some (.string (⟨#[]⟩ : ByteArray)) := ce BK327 0;have hfs15 := blk_frozen BK327.out 0;have hns15_0 := NB319_327.out;have hms15_0 := NB327_319.out;have hs16 : w14.cell? ⟨gb327, 1, none⟩ = some (.int .u64 0) := ce BK327 1;have hfs16 := blk_frozen BK327.out 1;have hns16_0 := NB319_327.out;have hms16_0 := NB327_319.out;have hs17 : w14.cell? ⟨gb327, 2, none⟩ = some (.int .u64 0) := ce BK327 2;have hfs17 := blk_frozen BK327.out 2;have hns17_0 := NB319_327.out;have hms17_0 := NB327_319.out;have hs18 : w14.cell? ⟨gb327, 3, none⟩ = some (.int .u64 0) := ce BK327 3;have hfs18 := blk_frozen BK327.out 3;have hns18_0 := NB319_327.out;have hms18_0 := NB327_319.out
      refine skip_ (w1 := ?_) (by rfl) rfl ?_ ?_
      rotate_left
      ·go_simp
       rfl
      refine hK.out _ _ ⟨((cell_far (p := ⟨gb327, _, none⟩) NB319_327.out _).trans (((cell_far (p := ⟨gb327, _, none⟩) NB319_327.out _).trans (((cell_far (p := ⟨gb327, _, none⟩) NB319_327.out _).trans (((cell_far (p := ⟨gb327, _, none⟩) NB319_327.out _).trans (hHeld.1)))))))), ((cell_far (p := ⟨gb327, _, none⟩) NB319_327.out _).trans (((cell_far (p := ⟨gb327, _, none⟩) NB319_327.out _).trans (((cell_far (p := ⟨gb327, _, none⟩) NB319_327.out _).trans (((cell_far (p := ⟨gb327, _, none⟩) NB319_327.out _).trans (hHeld.2.1)))))))), ((cell_far (p := ⟨gb327, _, none⟩) (al hw323_0 GW327) _).trans (((cell_far (p := ⟨gb327, _, none⟩) (al hw323_0 GW327) _).trans (((cell_far (p := ⟨gb327, _, none⟩) (al hw323_0 GW327) _).trans (((cell_far (p := ⟨gb327, _, none⟩) (al hw323_0 GW327) _).trans (hHeld.2.2.1)))))))), ((cell_far (p := ⟨gb327, _, none⟩) (al hw324_0 GW327) _).trans (((cell_far (p := ⟨gb327, _, none⟩) (al hw324_0 GW327) _).trans (((cell_far (p := ⟨gb327, _, none⟩) (al hw324_0 GW327) _).trans (((cell_far (p := ⟨gb327, _, none⟩) (al hw324_0 GW327) _).trans (hHeld.2.2.2.1)))))))), ((cell_far (p := ⟨gb327, _, none⟩) (al hw326_0 GW327) _).trans (((cell_far (p := ⟨gb327, _, none⟩) (al hw326_0 GW327) _).trans (((cell_far (p := ⟨gb327, _, none⟩) (al hw326_0 GW327) _).trans (((cell_far (p := ⟨gb327, _, none⟩) (al hw326_0 GW327) _).trans (hHeld.2.2.2.2.1)))))))), ((cell_far (p := ⟨gb327, _, none⟩) (al hw326_1 GW327) _).trans (((cell_far (p := ⟨gb327, _, none⟩) (al hw326_1 GW327) _).trans (((cell_far (p := ⟨gb327, _, none⟩) (al hw326_1 GW327) _).trans (((cell_far (p := ⟨gb327, _, none⟩) (al hw326_1 GW327) _).trans (hHeld.2.2.2.2.2))))))))⟩ (fun hHeld => ?_)
      clear hK K
      refine done_ (done_of HT_.out (by kernel_rfl)) ?_
      go_upto_block 2 with (fail)
      go_cut [13] (fun v13 wc => ∃ (kq : Nat) (x13_9 : Int), v13 = .int .i64 x13_9 ∧ Aside0 (r14_Model.j2 kq l1 l2 a3 x10_1 x11_1 x13_9 a0_0 a0_1 (rdOf ByteArray.empty l1 x11_1) t325 ((rd_T50 l2 x11_1).f0) ((rd_T50 l2 x11_1).f1) = some (r1, r2)) ∧ Aside0 (kq ≤ k1) ∧ Aside0 (Kd.R k60 60 wc w.heap.size (fun k_ => k_ ≠ gb327) u10 x10_1) ∧ Aside0 (wc.heap[gb319]? = some (.cells #[.int .u64 a0_0, .int .u64 a0_1] 24 (0, 0))) ∧ Aside0 (wc.heap[gb327]? = some (.cells #[.string (rdOf ByteArray.empty l1 x11_1), .int .u64 t325, .int .u64 ((rd_T50 l2 x11_1).f0), .int .u64 ((rd_T50 l2 x11_1).f1)] 60 (0, 0))) ∧ Aside0 (Below w.heap.size w wc))
      case first =>
       have H := HC10.out;clear HC10;have H' := am H;clear H
       go_wp2
       go_loopg [13] k1 (fun kq v13 w' => ∃ (x13_2 : Int), v13 = .int .i64 x13_2 ∧ Aside0 (r14_Model.l1 kq l1 l2 a3 x10_1 x11_1 x13_2 a0_0 a0_1 (rdOf ByteArray.empty l1 x11_1) t325 ((rd_T50 l2 x11_1).f0) ((rd_T50 l2 x11_1).f1) = some (r1, r2)) ∧ Aside0 (kq ≤ k1) ∧ Aside0 (Kd.R k60 60 w' w.heap.size (fun k_ => k_ ≠ gb327) u10 x10_1) ∧ Aside0 (w'.heap[gb319]? = some (.cells #[.int .u64 a0_0, .int .u64 a0_1] 24 (0, 0))) ∧ Aside0 (w'.heap[gb327]? = some (.cells #[.string (rdOf ByteArray.empty l1 x11_1), .int .u64 t325, .int .u64 ((rd_T50 l2 x11_1).f0), .int .u64 ((rd_T50 l2 x11_1).f1)] 60 (0, 0))) ∧ Aside0 (Below w.heap.size w w'))
       case atStart => exact ⟨(0), (by first | rfl | (simp; done) | (simp [*]; done)), H', ⟨Nat.le_refl _⟩, ⟨by refine pr ?_; exact Kd.R_mono (Kd.R_far (p := ⟨gb327, 3, none⟩) (Kd.R_far (p := ⟨gb327, 2, none⟩) (Kd.R_far (p := ⟨gb327, 1, none⟩) (Kd.R_far (p := ⟨gb327, 0, none⟩) (Kd.R_mono HO_10.out (fun k_ hk => (⟨hk, hk⟩ : _ ∧ k_ ≠ gb327))) (fun _ hk => hk.2) (.string (rdOf ByteArray.empty l1 x11_1))) (fun _ hk => hk.2) (.int .u64 t325)) (fun _ hk => hk.2) (.int .u64 ((rd_T50 l2 x11_1).f0))) (fun _ hk => hk.2) (.int .u64 ((rd_T50 l2 x11_1).f1))) (fun _ hk => hk.1)⟩, ⟨by refine pk ?_; refine blk_far ?_ NB319_327.out _; refine pk ?_; refine blk_far ?_ NB319_327.out _; refine pk ?_; refine blk_far ?_ NB319_327.out _; refine pk ?_; refine blk_far ?_ NB319_327.out _; refine pk ?_; exact BK319.out⟩, ⟨by refine pk ?_; refine blk_put (cs := #[.string (rdOf ByteArray.empty l1 x11_1), .int .u64 t325, .int .u64 ((rd_T50 l2 x11_1).f0), .int .u64 0]) ?_ 3 _ rfl; refine pk ?_; refine blk_put (cs := #[.string (rdOf ByteArray.empty l1 x11_1), .int .u64 t325, .int .u64 0, .int .u64 0]) ?_ 2 _ rfl; refine pk ?_; refine blk_put (cs := #[.string (rdOf ByteArray.empty l1 x11_1), .int .u64 0, .int .u64 0, .int .u64 0]) ?_ 1 _ rfl; refine pk ?_; refine blk_put (cs := #[.string (⟨#[]⟩ : ByteArray), .int .u64 0, .int .u64 0, .int .u64 0]) ?_ 0 _ rfl; refine pk ?_; exact BK327.out⟩, ⟨pb HB⟩⟩
       case round =>
        clear H';(try clear c1);(try clear c2);(try clear p2);(try clear p3);(try clear q3);(try clear hx3);(try clear c6);(try clear c6b0);(try clear c7);(try clear c7b0);(try clear c9);(try clear c9b0);(try clear hx323_0);(try clear hx324_0);(try clear hx326_0);(try clear hx326_1);(try clear p2);(try clear p323);(try clear p324);(try clear p326);(try clear q323);(try clear q324);(try clear q326);obtain ⟨x13_2, rfl, HA, HK2, HO_10, BK319, BK327, HB⟩ := hrel
        cases gk with
        | zero => exact absurd HA.out (by simp [r14_Model.l1])
        | succ k2 =>
         have H := HA.out;clear HA
         simp only [r14_Model.l1] at H
         by_cases c19 : x13_2 < (x10_1.length : Int)
         ·rw [if_pos c19] at H;have c19b0 : decide (x13_2 < (x10_1.length : Int)) = true := decide_eq_true c19;clear c19
          (first | rw [c19b0] | (simp only [i64_w, i32_w]; rw [c19b0]) | skip)
          by_cases c20 : 0 ≤ x13_2
          ·rw [if_pos c20] at H;have c20b0 : decide (0 ≤ x13_2) = true := decide_eq_true c20;clear c20;replace H := Option.bind_eq_some_iff.mp H;obtain ⟨t329, A210, H⟩ := H
           try dsimp only at H
           have A21 := am A210;clear A210
           by_cases c22 : t329 = true
           ·subst c22
            have H1 : (r14_Model.l1 k2 l1 l2 a3 x10_1 x11_1 (wrap64 (x13_2 + 1)) a0_0 a0_1 (rdOf ByteArray.empty l1 x11_1) t325 ((rd_T50 l2 x11_1).f0) ((rd_T50 l2 x11_1).f1)) = some (r1, r2) := by rw [if_pos rfl] at H; exact H
            clear H;have H := H1;clear H1;have H' := am H;clear H
            try go_wp2
            replace HO_10 := am (Kd.R_drew HO_10.out);replace BK319 := am (blk_drew BK319.out);replace BK327 := am (blk_drew BK327.out);replace HB := am (below_drew1 HB.out);obtain ⟨Ao24, co24, eo24⟩ := Kd.R_slice HO_10.out
            (first | subst eo24 | (injection eo24 with f1_ f2_ f3_; have f4_ := f1_.symm; have f5_ := f3_.symm; clear f1_ f2_ f3_; subst f4_; subst f5_))
            have p328 : 0 ≤ (x13_2 : Int) := of_decide_eq_true (by first | (with_reducible assumption) | assumption);have q328 : x13_2 < (x10_1.length : Int) := of_decide_eq_true (by first | (with_reducible assumption) | assumption);obtain ⟨ad328, e328, hx328_0, hx328_1, hx328_2, hx328_3⟩ := at_T60 (Kd.R_reads' HO_10.out).2.2 x13_2 p328 q328;cases e328;replace p328 := eq_true p328;replace q328 := eq_true q328
            refine start_ (n := 12) (S := fun w' => w'.cell? ⟨gb327, 0, none⟩ = some (.string (rdOf ByteArray.empty l1 x11_1)) ∧ w'.cell? ⟨gb327, 1, none⟩ = some (.int .u64 t325) ∧ w'.cell? ⟨gb327, 2, none⟩ = some (.int .u64 ((rd_T50 l2 x11_1).f0)) ∧ w'.cell? ⟨gb327, 3, none⟩ = some (.int .u64 ((rd_T50 l2 x11_1).f1)) ∧ w'.cell? (ad328.add ((x13_2).toNat * 4)) = some (.string ((rd_T60 x10_1 x13_2).f0)) ∧ w'.cell? ⟨(ad328.add ((x13_2).toNat * 4)).block, (ad328.add ((x13_2).toNat * 4)).off + 1, none⟩ = some (.int .u64 ((rd_T60 x10_1 x13_2).f1)) ∧ w'.cell? ⟨(ad328.add ((x13_2).toNat * 4)).block, (ad328.add ((x13_2).toNat * 4)).off + 2, none⟩ = some (.int .u64 ((rd_T60 x10_1 x13_2).f2.f0)) ∧ w'.cell? ⟨(ad328.add ((x13_2).toNat * 4)).block, (ad328.add ((x13_2).toNat * 4)).off + 3, none⟩ = some (.int .u64 ((rd_T60 x10_1 x13_2).f2.f1))) (ds := []) #[false, false, false, false, false, false, false, false, false, false, false, false] (by kernel_rfl) rfl rfl ⟨ce BK327 0, ce BK327 1, ce BK327 2, ce BK327 3, hx328_0, hx328_1, hx328_2, hx328_3⟩ (fun hHeld => ?_); refine with_tabW r14_Model.tab7 r14_Model.bits7 (fun HT_ HW_ => ?_)
            generalize wr.drew = w23 at HO_10 BK319 BK327 HB hx328_0 hx328_1 hx328_2 hx328_3 hHeld ⊢
            refine pu 0 ?_
            refine pu 1 ?_
            refine pu 2 ?_
            refine pu 3 ?_
            refine pu 4 ?_
            refine pu 5 ?_
            refine pu 6 ?_
            refine pu 7 ?_
            refine ta 8 hHeld ?_
            refine ta 9 hHeld ?_
            refine on1 10 (fun K hK => ?_)
            refine gs Try.func23 #[.agg #[.string ((rd_T60 x10_1 x13_2).f0), .int .u64 ((rd_T60 x10_1 x13_2).f1), .int .u64 ((rd_T60 x10_1 x13_2).f2.f0), .int .u64 ((rd_T60 x10_1 x13_2).f2.f1)], .agg #[.string (rdOf ByteArray.empty l1 x11_1), .int .u64 t325, .int .u64 ((rd_T50 l2 x11_1).f0), .int .u64 ((rd_T50 l2 x11_1).f1)]] ?_
            with_reducible refine (r14_Ahead.calls ((rd_T60 x10_1 x13_2).f0) ((rd_T60 x10_1 x13_2).f1) ((rd_T60 x10_1 x13_2).f2.f0) ((rd_T60 x10_1 x13_2).f2.f1) (rdOf ByteArray.empty l1 x11_1) t325 ((rd_T50 l2 x11_1).f0) ((rd_T50 l2 x11_1).f1) true _ A21.out).mono ?_
            rintro e w25 ⟨rfl, hb⟩
            have HS4_ := (hb.cell (World.block_lt_of_cell? _ _ (hHeld.2.2.2.2.1))).trans (hHeld.2.2.2.2.1);have HS5_ := (hb.cell (World.block_lt_of_cell? _ _ (hHeld.2.2.2.2.2.1))).trans (hHeld.2.2.2.2.2.1);have HS6_ := (hb.cell (World.block_lt_of_cell? _ _ (hHeld.2.2.2.2.2.2.1))).trans (hHeld.2.2.2.2.2.2.1);have HS7_ := (hb.cell (World.block_lt_of_cell? _ _ (hHeld.2.2.2.2.2.2.2))).trans (hHeld.2.2.2.2.2.2.2)
            refine ⟨_, rfl, ?_⟩
            replace HO_10 := am (Kd.R_below (pr HO_10.out) hb);replace BK319 := am (blk_below (pk BK319.out) hb);replace BK327 := am (blk_below (pk BK327.out) hb);replace HB := am (below_step (pb HB) hb)
            (try clear hb)
            (try clear hb2)
            (try clear hk)
            (try clear hi)
            refine hK.out _ _ ⟨ce BK327 0, ce BK327 1, ce BK327 2, ce BK327 3, HS4_, HS5_, HS6_, HS7_⟩ (fun hHeld => ?_)
            clear hK K
            refine nm ?_
            refine pu 11 ?_
            refine done_ (done_of HT_.out (by kernel_rfl)) ?_
            try go_wp2
            go_roundg k2
            case measure => have := HK1.out; have := HK2.out; omega
            case rel => exact ⟨(wrap64 (x13_2 + 1)), (by first | rfl | (simp; done) | (simp [*]; done)), H', ⟨by have := HK1.out; have := HK2.out; omega⟩, ⟨pr HO_10.out⟩, ⟨pk BK319.out⟩, ⟨pk BK327.out⟩, ⟨pb HB⟩⟩
           ·replace c22 := Bool.eq_false_iff.mpr c22;subst c22
            have H1 : (r14_Model.j2 k2 l1 l2 a3 x10_1 x11_1 x13_2 a0_0 a0_1 (rdOf ByteArray.empty l1 x11_1) t325 ((rd_T50 l2 x11_1).f0) ((rd_T50 l2 x11_1).f1)) = some (r1, r2) := by rw [if_neg (show ¬ (false = true) by decide)] at H; exact H
            clear H;have H := H1;clear H1;have H' := am H;clear H
            try go_wp2
            replace HO_10 := am (Kd.R_drew HO_10.out);replace BK319 := am (blk_drew BK319.out);replace BK327 := am (blk_drew BK327.out);replace HB := am (below_drew1 HB.out);obtain ⟨Ao27, co27, eo27⟩ := Kd.R_slice HO_10.out
            (first | subst eo27 | (injection eo27 with f1_ f2_ f3_; have f4_ := f1_.symm; have f5_ := f3_.symm; clear f1_ f2_ f3_; subst f4_; subst f5_))
            have p328 : 0 ≤ (x13_2 : Int) := of_decide_eq_true (by first | (with_reducible assumption) | assumption);have q328 : x13_2 < (x10_1.length : Int) := of_decide_eq_true (by first | (with_reducible assumption) | assumption);obtain ⟨ad328, e328, hx328_0, hx328_1, hx328_2, hx328_3⟩ := at_T60 (Kd.R_reads' HO_10.out).2.2 x13_2 p328 q328;cases e328;replace p328 := eq_true p328;replace q328 := eq_true q328
            refine start_ (n := 12) (S := fun w' => w'.cell? ⟨gb327, 0, none⟩ = some (.string (rdOf ByteArray.empty l1 x11_1)) ∧ w'.cell? ⟨gb327, 1, none⟩ = some (.int .u64 t325) ∧ w'.cell? ⟨gb327, 2, none⟩ = some (.int .u64 ((rd_T50 l2 x11_1).f0)) ∧ w'.cell? ⟨gb327, 3, none⟩ = some (.int .u64 ((rd_T50 l2 x11_1).f1)) ∧ w'.cell? (ad328.add ((x13_2).toNat * 4)) = some (.string ((rd_T60 x10_1 x13_2).f0)) ∧ w'.cell? ⟨(ad328.add ((x13_2).toNat * 4)).block, (ad328.add ((x13_2).toNat * 4)).off + 1, none⟩ = some (.int .u64 ((rd_T60 x10_1 x13_2).f1)) ∧ w'.cell? ⟨(ad328.add ((x13_2).toNat * 4)).block, (ad328.add ((x13_2).toNat * 4)).off + 2, none⟩ = some (.int .u64 ((rd_T60 x10_1 x13_2).f2.f0)) ∧ w'.cell? ⟨(ad328.add ((x13_2).toNat * 4)).block, (ad328.add ((x13_2).toNat * 4)).off + 3, none⟩ = some (.int .u64 ((rd_T60 x10_1 x13_2).f2.f1))) (ds := []) #[false, false, false, false, false, false, false, false, false, false, false, false] (by kernel_rfl) rfl rfl ⟨ce BK327 0, ce BK327 1, ce BK327 2, ce BK327 3, hx328_0, hx328_1, hx328_2, hx328_3⟩ (fun hHeld => ?_); refine with_tabW r14_Model.tab7 r14_Model.bits7 (fun HT_ HW_ => ?_)
            generalize wr.drew = w26 at HO_10 BK319 BK327 HB hx328_0 hx328_1 hx328_2 hx328_3 hHeld ⊢
            refine pu 0 ?_
            refine pu 1 ?_
            refine pu 2 ?_
            refine pu 3 ?_
            refine pu 4 ?_
            refine pu 5 ?_
            refine pu 6 ?_
            refine pu 7 ?_
            refine ta 8 hHeld ?_
            refine ta 9 hHeld ?_
            refine on1 10 (fun K hK => ?_)
            refine gs Try.func23 #[.agg #[.string ((rd_T60 x10_1 x13_2).f0), .int .u64 ((rd_T60 x10_1 x13_2).f1), .int .u64 ((rd_T60 x10_1 x13_2).f2.f0), .int .u64 ((rd_T60 x10_1 x13_2).f2.f1)], .agg #[.string (rdOf ByteArray.empty l1 x11_1), .int .u64 t325, .int .u64 ((rd_T50 l2 x11_1).f0), .int .u64 ((rd_T50 l2 x11_1).f1)]] ?_
            with_reducible refine (r14_Ahead.calls ((rd_T60 x10_1 x13_2).f0) ((rd_T60 x10_1 x13_2).f1) ((rd_T60 x10_1 x13_2).f2.f0) ((rd_T60 x10_1 x13_2).f2.f1) (rdOf ByteArray.empty l1 x11_1) t325 ((rd_T50 l2 x11_1).f0) ((rd_T50 l2 x11_1).f1) false _ A21.out).mono ?_
            rintro e w28 ⟨rfl, hb⟩
            have HS4_ := (hb.cell (World.block_lt_of_cell? _ _ (hHeld.2.2.2.2.1))).trans (hHeld.2.2.2.2.1);have HS5_ := (hb.cell (World.block_lt_of_cell? _ _ (hHeld.2.2.2.2.2.1))).trans (hHeld.2.2.2.2.2.1);have HS6_ := (hb.cell (World.block_lt_of_cell? _ _ (hHeld.2.2.2.2.2.2.1))).trans (hHeld.2.2.2.2.2.2.1);have HS7_ := (hb.cell (World.block_lt_of_cell? _ _ (hHeld.2.2.2.2.2.2.2))).trans (hHeld.2.2.2.2.2.2.2)
            refine ⟨_, rfl, ?_⟩
            replace HO_10 := am (Kd.R_below (pr HO_10.out) hb);replace BK319 := am (blk_below (pk BK319.out) hb);replace BK327 := am (blk_below (pk BK327.out) hb);replace HB := am (below_step (pb HB) hb)
            (try clear hb)
            (try clear hb2)
            (try clear hk)
            (try clear hi)
            refine hK.out _ _ ⟨ce BK327 0, ce BK327 1, ce BK327 2, ce BK327 3, HS4_, HS5_, HS6_, HS7_⟩ (fun hHeld => ?_)
            clear hK K
            refine nm ?_
            refine pu 11 ?_
            refine done_ (done_of HT_.out (by kernel_rfl)) ?_
            try go_wp2
            go_meet
            case rel => exact ⟨_, (x13_2), (by first | rfl | (simp; done) | (simp [*]; done)), H', ⟨by have := HK1.out; have := HK2.out; first | omega | exact Nat.le_refl _⟩, ⟨pr HO_10.out⟩, ⟨pk BK319.out⟩, ⟨pk BK327.out⟩, ⟨pb HB⟩⟩
          ·rw [if_neg c20] at H;exact absurd H (by simp)
         ·rw [if_neg c19] at H;have c19b0 : decide (x13_2 < (x10_1.length : Int)) = false := decide_eq_false c19;clear c19
          (first | rw [c19b0] | (simp only [i64_w, i32_w]; rw [c19b0]) | skip)
          have H' := am H;clear H
          try go_wp2
          replace HO_10 := am (Kd.R_drew HO_10.out);replace BK319 := am (blk_drew BK319.out);replace BK327 := am (blk_drew BK327.out);replace HB := am (below_drew1 HB.out);obtain ⟨Ao30, co30, eo30⟩ := Kd.R_slice HO_10.out
          (first | subst eo30 | (injection eo30 with f1_ f2_ f3_; have f4_ := f1_.symm; have f5_ := f3_.symm; clear f1_ f2_ f3_; subst f4_; subst f5_))
          refine start_ (n := 12) (S := fun w' => True) (ds := []) #[false, false, false, false, false, false, false, false, false, false, false, false] (by kernel_rfl) rfl rfl trivial (fun hHeld => ?_); refine with_tabW r14_Model.tab7 r14_Model.bits7 (fun HT_ HW_ => ?_)
          generalize wr.drew = w29 at HO_10 BK319 BK327 HB hHeld ⊢
          refine pu 0 ?_
          refine pu 1 ?_
          refine pu 2 ?_
          refine pu 3 ?_
          refine pu 4 ?_
          refine po 5 ?_
          refine po 6 ?_
          refine po 7 ?_
          refine po 8 ?_
          refine po 9 ?_
          refine po 10 ?_
          refine pu 11 ?_
          refine done_ (done_of HT_.out (by kernel_rfl)) ?_
          try go_wp2
          go_meet
          case rel => exact ⟨_, (x13_2), (by first | rfl | (simp; done) | (simp [*]; done)), H', ⟨by have := HK1.out; have := HK2.out; first | omega | exact Nat.le_refl _⟩, ⟨pr HO_10.out⟩, ⟨pk BK319.out⟩, ⟨pk BK327.out⟩, ⟨pb HB⟩⟩
      case rest =>
       clear HC10;(try clear c1);(try clear c2);(try clear p2);(try clear p3);(try clear q3);(try clear hx3);(try clear c6);(try clear c6b0);(try clear p6);(try clear c7);(try clear c7b0);(try clear c9);(try clear c9b0);(try clear c19);(try clear c19b0);(try clear c20);(try clear c20b0);(try clear c22);(try clear c23);(try clear hx323_0);(try clear hx324_0);(try clear hx326_0);(try clear hx326_1);(try clear hx328_0);(try clear hx328_1);(try clear hx328_2);(try clear hx328_3);(try clear p2);(try clear p3);(try clear p323);(try clear p324);(try clear p326);(try clear p328);(try clear q3);(try clear q323);(try clear q324);(try clear q326);(try clear q328);obtain ⟨kq, x13_9, rfl, HA, HJ9, HO_10, BK319, BK327, HB⟩ := hcut
       cases kq with
       | zero => exact absurd HA.out (by simp [r14_Model.j2])
       | succ kj9 =>
        have H := HA.out;clear HA
        simp only [r14_Model.j2] at H
        have HC31 := am H;clear H
        go_upto_region 9 with (fail)
        go_cut [14] (fun v14 wc => ∃ (kq : Nat) (x14_30 : Bool), v14 = .bool x14_30 ∧ Aside0 (r14_Model.j3 kq l1 l2 a3 x10_1 x11_1 x13_9 x14_30 a0_0 a0_1 (rdOf ByteArray.empty l1 x11_1) t325 ((rd_T50 l2 x11_1).f0) ((rd_T50 l2 x11_1).f1) = some (r1, r2)) ∧ Aside0 (kq ≤ kj9) ∧ Aside0 (Kd.R k60 60 wc w.heap.size (fun k_ => k_ ≠ gb327) u10 x10_1) ∧ Aside0 (wc.heap[gb319]? = some (.cells #[.int .u64 a0_0, .int .u64 a0_1] 24 (0, 0))) ∧ Aside0 (wc.heap[gb327]? = some (.cells #[.string (rdOf ByteArray.empty l1 x11_1), .int .u64 t325, .int .u64 ((rd_T50 l2 x11_1).f0), .int .u64 ((rd_T50 l2 x11_1).f1)] 60 (0, 0))) ∧ Aside0 (Below w.heap.size w wc))
        case first =>
         have H := HC31.out;clear HC31
         by_cases c32 : x13_9 < (x10_1.length : Int)
         ·rw [if_pos c32] at H;have c32b0 : decide (x13_9 < (x10_1.length : Int)) = true := decide_eq_true c32;clear c32
          (first | rw [c32b0] | (simp only [i64_w, i32_w]; rw [c32b0]) | skip)
          by_cases c33 : 0 ≤ x13_9
          ·rw [if_pos c33] at H;have c33b0 : decide (0 ≤ x13_9) = true := decide_eq_true c33;clear c33;have H' := am H;clear H
           try go_wp2
           replace HO_10 := am (Kd.R_drew HO_10.out);replace BK319 := am (blk_drew BK319.out);replace BK327 := am (blk_drew BK327.out);replace HB := am (below_drew1 HB.out);obtain ⟨Ao35, co35, eo35⟩ := Kd.R_slice HO_10.out
           (first | subst eo35 | (injection eo35 with f1_ f2_ f3_; have f4_ := f1_.symm; have f5_ := f3_.symm; clear f1_ f2_ f3_; subst f4_; subst f5_))
           have p330 : 0 ≤ (x13_9 : Int) := of_decide_eq_true (by first | (with_reducible assumption) | assumption);have q330 : x13_9 < (x10_1.length : Int) := of_decide_eq_true (by first | (with_reducible assumption) | assumption);obtain ⟨ad330, e330, hx330_0, hx330_1, hx330_2, hx330_3⟩ := at_T60 (Kd.R_reads' HO_10.out).2.2 x13_9 p330 q330;cases e330;replace p330 := eq_true p330;replace q330 := eq_true q330
           refine start_ (n := 15) (S := fun w' => w'.cell? ⟨gb327, 0, none⟩ = some (.string (rdOf ByteArray.empty l1 x11_1)) ∧ w'.cell? ⟨gb327, 1, none⟩ = some (.int .u64 t325) ∧ w'.cell? ⟨gb327, 2, none⟩ = some (.int .u64 ((rd_T50 l2 x11_1).f0)) ∧ w'.cell? ⟨gb327, 3, none⟩ = some (.int .u64 ((rd_T50 l2 x11_1).f1)) ∧ w'.cell? (ad330.add ((x13_9).toNat * 4)) = some (.string ((rd_T60 x10_1 x13_9).f0)) ∧ w'.cell? ⟨(ad330.add ((x13_9).toNat * 4)).block, (ad330.add ((x13_9).toNat * 4)).off + 1, none⟩ = some (.int .u64 ((rd_T60 x10_1 x13_9).f1)) ∧ w'.cell? ⟨(ad330.add ((x13_9).toNat * 4)).block, (ad330.add ((x13_9).toNat * 4)).off + 2, none⟩ = some (.int .u64 ((rd_T60 x10_1 x13_9).f2.f0)) ∧ w'.cell? ⟨(ad330.add ((x13_9).toNat * 4)).block, (ad330.add ((x13_9).toNat * 4)).off + 3, none⟩ = some (.int .u64 ((rd_T60 x10_1 x13_9).f2.f1))) (ds := []) #[false, false, false, false, false, false, false, false, false, false, false, false, false, false, false] (by kernel_rfl) rfl rfl ⟨ce BK327 0, ce BK327 1, ce BK327 2, ce BK327 3, hx330_0, hx330_1, hx330_2, hx330_3⟩ (fun hHeld => ?_); refine with_tabW r14_Model.tab9 r14_Model.bits9 (fun HT_ HW_ => ?_)
           generalize wc.drew = w34 at HO_10 BK319 BK327 HB hx330_0 hx330_1 hx330_2 hx330_3 hHeld ⊢
           refine pu 0 ?_
           refine pu 1 ?_
           refine pu 2 ?_
           refine pu 3 ?_
           refine pu 4 ?_
           refine pu 5 ?_
           refine pu 6 ?_
           refine pu 7 ?_
           refine pu 8 ?_
           refine pu 10 ?_
           refine ta 9 hHeld ?_
           refine ta 11 hHeld ?_
           refine pu 12 ?_
           refine pu 13 ?_
           refine pu 14 ?_
           refine done_ (done_of HT_.out (by kernel_rfl)) ?_
           try go_wp2
           go_meet
           case rel => exact ⟨_, ((((rd_T60 x10_1 x13_9).f0).toList == (rdOf ByteArray.empty l1 x11_1).toList)), (by first | rfl | (simp; done) | (simp [*]; done)), H', ⟨by have := HK1.out; have := HJ9.out; first | omega | exact Nat.le_refl _⟩, ⟨pr HO_10.out⟩, ⟨pk BK319.out⟩, ⟨pk BK327.out⟩, ⟨pb HB⟩⟩
          ·rw [if_neg c33] at H;exact absurd H (by simp)
         ·rw [if_neg c32] at H;have c32b0 : decide (x13_9 < (x10_1.length : Int)) = false := decide_eq_false c32;clear c32
          (first | rw [c32b0] | (simp only [i64_w, i32_w]; rw [c32b0]) | skip)
          have H' := am H;clear H
          try go_wp2
          replace HO_10 := am (Kd.R_drew HO_10.out);replace BK319 := am (blk_drew BK319.out);replace BK327 := am (blk_drew BK327.out);replace HB := am (below_drew1 HB.out);obtain ⟨Ao37, co37, eo37⟩ := Kd.R_slice HO_10.out
          (first | subst eo37 | (injection eo37 with f1_ f2_ f3_; have f4_ := f1_.symm; have f5_ := f3_.symm; clear f1_ f2_ f3_; subst f4_; subst f5_))
          refine start_ (n := 15) (S := fun w' => True) (ds := []) #[false, false, false, false, false, false, false, false, false, false, false, false, false, false, false] (by kernel_rfl) rfl rfl trivial (fun hHeld => ?_); refine with_tabW r14_Model.tab9 r14_Model.bits9 (fun HT_ HW_ => ?_)
          generalize wc.drew = w36 at HO_10 BK319 BK327 HB hHeld ⊢
          refine pu 0 ?_
          refine pu 1 ?_
          refine pu 2 ?_
          refine pu 3 ?_
          refine pu 4 ?_
          refine po 5 ?_
          refine po 6 ?_
          refine po 7 ?_
          refine po 8 ?_
          refine po 9 ?_
          refine po 10 ?_
          refine po 11 ?_
          refine po 12 ?_
          refine pu 13 ?_
          refine pu 14 ?_
          refine done_ (done_of HT_.out (by kernel_rfl)) ?_
          try go_wp2
          go_meet
          case rel => exact ⟨_, (false), (by first | rfl | (simp; done) | (simp [*]; done)), H', ⟨by have := HK1.out; have := HJ9.out; first | omega | exact Nat.le_refl _⟩, ⟨pr HO_10.out⟩, ⟨pk BK319.out⟩, ⟨pk BK327.out⟩, ⟨pb HB⟩⟩
        case rest =>
         clear HC31;(try clear c1);(try clear c2);(try clear p2);(try clear c3);(try clear p3);(try clear q3);(try clear hx3);(try clear c6);(try clear c6b0);(try clear p6);(try clear c7);(try clear c7b0);(try clear c9);(try clear c9b0);(try clear c19);(try clear c19b0);(try clear c20);(try clear c20b0);(try clear c22);(try clear c23);(try clear c32);(try clear c32b0);(try clear p32);(try clear q32);(try clear hx32);(try clear c33);(try clear c33b0);(try clear p33);(try clear q33);(try clear hx33);(try clear hx323_0);(try clear hx324_0);(try clear hx326_0);(try clear hx326_1);(try clear hx328_0);(try clear hx328_1);(try clear hx328_2);(try clear hx328_3);(try clear hx330_0);(try clear hx330_1);(try clear hx330_2);(try clear hx330_3);(try clear p2);(try clear p3);(try clear p323);(try clear p324);(try clear p326);(try clear p328);(try clear p330);(try clear p6);(try clear q3);(try clear q323);(try clear q324);(try clear q326);(try clear q328);(try clear q330);obtain ⟨kq, x14_30, rfl, HA, HJ30, HO_10, BK319, BK327, HB⟩ := hcut
         cases kq with
         | zero => exact absurd HA.out (by simp [r14_Model.j3])
         | succ kj30 =>
          have H := HA.out;clear HA
          simp only [r14_Model.j3] at H
          by_cases c38 : x14_30 = true
          ·subst c38
           have H1 : (if 0 ≤ x13_9 then (if x13_9 < (x10_1.length : Int) then ((r01_Add.f ((rd_T60 x10_1 x13_9).f2.f0) ((rd_T60 x10_1 x13_9).f2.f1) ((rd_T50 l2 x11_1).f0) ((rd_T50 l2 x11_1).f1)).bind fun bt332 => (if bt332.2.2 = true then (r14_Model.l0 kj30 l1 l2 a3 (x10_1.set (x13_9 : Int).toNat (⟨(rd_T60 x10_1 x13_9).f0, (rd_T60 x10_1 x13_9).f1, (⟨bt332.1, bt332.2.1⟩ : S50)⟩ : S60)) (wrap64 (x11_1 + 1)) a0_0 a0_1) else (some (([] : List (S60)), false)))) else (none)) else (none)) = some (r1, r2) := by rw [if_pos rfl] at H; exact H
           clear H;have H := H1;clear H1
           by_cases c39 : 0 ≤ x13_9
           ·rw [if_pos c39] at H;have c39b0 : decide (0 ≤ x13_9) = true := decide_eq_true c39;clear c39
            by_cases c40 : x13_9 < (x10_1.length : Int)
            ·rw [if_pos c40] at H;have c40b0 : decide (x13_9 < (x10_1.length : Int)) = true := decide_eq_true c40;clear c40;replace H := Option.bind_eq_some_iff.mp H;obtain ⟨⟨t332, t333, t334⟩, A410, H⟩ := H
             try dsimp only at H
             have A41 := am A410;clear A410
             by_cases c42 : t334 = true
             ·subst c42
              have H1 : (r14_Model.l0 kj30 l1 l2 a3 (x10_1.set (x13_9 : Int).toNat (⟨(rd_T60 x10_1 x13_9).f0, (rd_T60 x10_1 x13_9).f1, (⟨t332, t333⟩ : S50)⟩ : S60)) (wrap64 (x11_1 + 1)) a0_0 a0_1) = some (r1, r2) := by rw [if_pos rfl] at H; exact H
              clear H;have H := H1;clear H1;obtain ⟨y336, hy336⟩ : ∃ y_ : List (S60), y_ = (x10_1.set (x13_9 : Int).toNat (⟨(rd_T60 x10_1 x13_9).f0, (rd_T60 x10_1 x13_9).f1, (⟨t332, t333⟩ : S50)⟩ : S60)) := ⟨_, rfl⟩
              replace H : (r14_Model.l0 kj30 l1 l2 a3 y336 (wrap64 (x11_1 + 1)) a0_0 a0_1) = some (r1, r2) := by first | (rw [hy336]; with_reducible exact H) | (have H2_ := (Option.bind_some _ _).symm.trans H; rw [hy336]; with_reducible exact H2_) | (have H2_ := (Option.bind_some _ _).symm.trans H; with_reducible exact H2_) | with_reducible exact H | (rw [hy336]; exact H) | exact H
              have Ny336 := am hy336;clear hy336;have H' := am H;clear H
              try go_wp2
              replace HO_10 := am (Kd.R_drew HO_10.out);replace BK319 := am (blk_drew BK319.out);replace BK327 := am (blk_drew BK327.out);replace HB := am (below_drew1 HB.out);obtain ⟨Ao45, co45, eo45⟩ := Kd.R_slice HO_10.out
              (first | subst eo45 | (injection eo45 with f1_ f2_ f3_; have f4_ := f1_.symm; have f5_ := f3_.symm; clear f1_ f2_ f3_; subst f4_; subst f5_))
              have p331 : 0 ≤ (x13_9 : Int) := of_decide_eq_true (by first | (with_reducible assumption) | assumption);have q331 : x13_9 < (x10_1.length : Int) := of_decide_eq_true (by first | (with_reducible assumption) | assumption);obtain ⟨ad331, e331, hx331_0, hx331_1, hx331_2, hx331_3⟩ := at_T60 (Kd.R_reads' HO_10.out).2.2 x13_9 p331 q331;cases e331;replace p331 := eq_true p331;replace q331 := eq_true q331
              refine start_ (n := 14) (S := fun w' => w'.cell? ⟨gb327, 0, none⟩ = some (.string (rdOf ByteArray.empty l1 x11_1)) ∧ w'.cell? ⟨gb327, 1, none⟩ = some (.int .u64 t325) ∧ w'.cell? ⟨gb327, 2, none⟩ = some (.int .u64 ((rd_T50 l2 x11_1).f0)) ∧ w'.cell? ⟨gb327, 3, none⟩ = some (.int .u64 ((rd_T50 l2 x11_1).f1)) ∧ w'.cell? (ad331.add ((x13_9).toNat * 4)) = some (.string ((rd_T60 x10_1 x13_9).f0)) ∧ w'.cell? ⟨(ad331.add ((x13_9).toNat * 4)).block, (ad331.add ((x13_9).toNat * 4)).off + 1, none⟩ = some (.int .u64 ((rd_T60 x10_1 x13_9).f1)) ∧ w'.cell? ⟨(ad331.add ((x13_9).toNat * 4)).block, (ad331.add ((x13_9).toNat * 4)).off + 2, none⟩ = some (.int .u64 ((rd_T60 x10_1 x13_9).f2.f0)) ∧ w'.cell? ⟨(ad331.add ((x13_9).toNat * 4)).block, (ad331.add ((x13_9).toNat * 4)).off + 3, none⟩ = some (.int .u64 ((rd_T60 x10_1 x13_9).f2.f1))) (ds := []) #[false, false, false, false, false, false, false, false, false, false, false, false, false, false] (by kernel_rfl) rfl rfl ⟨ce BK327 0, ce BK327 1, ce BK327 2, ce BK327 3, hx331_0, hx331_1, hx331_2, hx331_3⟩ (fun hHeld => ?_); refine with_tabW r14_Model.tab11 r14_Model.bits11 (fun HT_ HW_ => ?_)
              generalize wc.drew = w44 at HO_10 BK319 BK327 HB hx331_0 hx331_1 hx331_2 hx331_3 hHeld ⊢
              refine pu 0 ?_
              refine pu 1 ?_
              refine pu 2 ?_
              refine pu 3 ?_
              refine pu 5 ?_
              refine ta 4 hHeld ?_
              refine ta 6 hHeld ?_
              refine join_ (σ := Nat) 2 #[true, true, true, true, true, true, true, true, true, true, true, true, false, false] (fun s_ => [(76, .tuple #[.agg #[.int .u64 t332, .int .u64 t333], .bool true]), (15, .pointer (some ⟨s_, 0, none⟩)), (68, .tuple #[.agg #[.int .u64 t332, .int .u64 t333], .bool true]), (77, .agg #[.int .u64 t332, .int .u64 t333]), (78, .bool true)]) (fun s_ w' => (w'.cell? ⟨gb327, 0, none⟩ = some (.string (rdOf ByteArray.empty l1 x11_1)) ∧ w'.cell? ⟨gb327, 1, none⟩ = some (.int .u64 t325) ∧ w'.cell? ⟨gb327, 2, none⟩ = some (.int .u64 ((rd_T50 l2 x11_1).f0)) ∧ w'.cell? ⟨gb327, 3, none⟩ = some (.int .u64 ((rd_T50 l2 x11_1).f1)) ∧ w'.cell? (ad331.add ((x13_9).toNat * 4)) = some (.string ((rd_T60 x10_1 x13_9).f0)) ∧ w'.cell? ⟨(ad331.add ((x13_9).toNat * 4)).block, (ad331.add ((x13_9).toNat * 4)).off + 1, none⟩ = some (.int .u64 ((rd_T60 x10_1 x13_9).f1)) ∧ w'.cell? ⟨(ad331.add ((x13_9).toNat * 4)).block, (ad331.add ((x13_9).toNat * 4)).off + 2, none⟩ = some (.int .u64 ((rd_T60 x10_1 x13_9).f2.f0)) ∧ w'.cell? ⟨(ad331.add ((x13_9).toNat * 4)).block, (ad331.add ((x13_9).toNat * 4)).off + 3, none⟩ = some (.int .u64 ((rd_T60 x10_1 x13_9).f2.f1))) ∧ (Kd.R k60 60 w' w.heap.size (fun k_ => k_ ≠ gb327) (.slice (some ad331) x10_1.length co45) x10_1) ∧ (w'.heap[gb319]? = some (.cells #[.int .u64 a0_0, .int .u64 a0_1] 24 (0, 0))) ∧ (w'.heap[gb327]? = some (.cells #[.string (rdOf ByteArray.empty l1 x11_1), .int .u64 t325, .int .u64 ((rd_T50 l2 x11_1).f0), .int .u64 ((rd_T50 l2 x11_1).f1)] 60 (0, 0))) ∧ (w'.heap[s_]? = some (.cells #[.int .u64 0, .int .u64 0] 50 (0, 0))) ∧ (w.heap.size ≤ s_) ∧ (w.heap.size ≤ s_) ∧ (gb319 ≠ s_) ∧ (s_ ≠ gb319) ∧ (gb327 ≠ s_) ∧ (s_ ≠ gb327) ∧ (Below w.heap.size w w')) ?_ ?_
              rotate_left
              ·intro hCont
               refine two_ (i := 7) (j := 11) (Ni := some 76) (Nj := some 15) #[true, true, true, true, true, true, true, true, false, false, false, false, false, false] #[true, true, true, true, true, true, true, false, false, false, false, true, false, false] rfl rfl rfl rfl (two_of HT_.out (by kernel_rfl)) (by decide) (by decide) (fun K hK => ?_) (fun K hK => ?_)
               ·skip
                refine gs Try.func31 #[.agg #[.int .u64 ((rd_T60 x10_1 x13_9).f2.f0), .int .u64 ((rd_T60 x10_1 x13_9).f2.f1)], .agg #[.int .u64 ((rd_T50 l2 x11_1).f0), .int .u64 ((rd_T50 l2 x11_1).f1)]] ?_
                with_reducible refine (r01_Add.calls ((rd_T60 x10_1 x13_9).f2.f0) ((rd_T60 x10_1 x13_9).f2.f1) ((rd_T50 l2 x11_1).f0) ((rd_T50 l2 x11_1).f1) t332 t333 true _ A41.out).mono ?_
                rintro e w46 ⟨rfl, hb⟩
                have HS4_ := (hb.cell (World.block_lt_of_cell? _ _ (hHeld.2.2.2.2.1))).trans (hHeld.2.2.2.2.1);have HS5_ := (hb.cell (World.block_lt_of_cell? _ _ (hHeld.2.2.2.2.2.1))).trans (hHeld.2.2.2.2.2.1);have HS6_ := (hb.cell (World.block_lt_of_cell? _ _ (hHeld.2.2.2.2.2.2.1))).trans (hHeld.2.2.2.2.2.2.1);have HS7_ := (hb.cell (World.block_lt_of_cell? _ _ (hHeld.2.2.2.2.2.2.2))).trans (hHeld.2.2.2.2.2.2.2)
                refine ⟨_, rfl, ?_⟩
                replace HO_10 := am (Kd.R_below (pr HO_10.out) hb);replace BK319 := am (blk_below (pk BK319.out) hb);replace BK327 := am (blk_below (pk BK327.out) hb);replace HB := am (below_step (pb HB) hb)
                (try clear hb)
                (try clear hb2)
                (try clear hk)
                (try clear hi)
                refine hK.out _ _ ⟨ce BK327 0, ce BK327 1, ce BK327 2, ce BK327 3, HS4_, HS5_, HS6_, HS7_⟩ (fun hHeld => ?_)
                clear hK K
                refine nm ?_
                refine pu 8 ?_
                refine pu 9 ?_
                refine pu 10 ?_
                refine on1 11 (fun K hK => ?_)
                refine bx 15 #[.int .u64 0, .int .u64 0] 50 ?_
                intro gb335 hg w47 hbox hb
                have HS4_ := (hb.cell (World.block_lt_of_cell? _ _ (hHeld.2.2.2.2.1))).trans (hHeld.2.2.2.2.1);have HS5_ := (hb.cell (World.block_lt_of_cell? _ _ (hHeld.2.2.2.2.2.1))).trans (hHeld.2.2.2.2.2.1);have HS6_ := (hb.cell (World.block_lt_of_cell? _ _ (hHeld.2.2.2.2.2.2.1))).trans (hHeld.2.2.2.2.2.2.1);have HS7_ := (hb.cell (World.block_lt_of_cell? _ _ (hHeld.2.2.2.2.2.2.2))).trans (hHeld.2.2.2.2.2.2.2);have n0_ := am (Kd.R_below (pr HO_10.out) hb);have n1_ := am (blk_below (pk BK319.out) hb);have n2_ := am (blk_below (pk BK327.out) hb);have n3_ := am (below_step (pb HB) hb);have n4_ := am (hbox);have n5_ := am ((pg hg HB : w.heap.size ≤ gb335));have n6_ := am ((pg hg HB : w.heap.size ≤ gb335));have n7_ := am ((pl hg (pk BK319.out) : gb319 ≠ gb335));have n8_ := am ((pl' hg (pk BK319.out) : gb335 ≠ gb319));have n9_ := am ((pl hg (pk BK327.out) : gb327 ≠ gb335));have n10_ := am ((pl' hg (pk BK327.out) : gb335 ≠ gb327));clear HO_10 BK319 BK327 HB;have HO_10 := n0_;have BK319 := n1_;have BK327 := n2_;have HB := n3_;have BK335 := n4_;have GW335 := n5_;have GE335 := n6_;have NB319_335 := n7_;have NB335_319 := n8_;have NB327_335 := n9_;have NB335_327 := n10_;clear n0_ n1_ n2_ n3_ n4_ n5_ n6_ n7_ n8_ n9_ n10_ hb hbox hg
                refine hK.out _ _ ⟨ce BK327 0, ce BK327 1, ce BK327 2, ce BK327 3, HS4_, HS5_, HS6_, HS7_⟩ (fun hHeld => ?_)
                clear hK K
                refine nm ?_
                exact nj (hCont (gb335) _ ⟨hHeld, (pr HO_10.out), (pk BK319.out), (pk BK327.out), (pk BK335.out), GW335.out, GE335.out, NB319_335.out, NB335_319.out, NB327_335.out, NB335_327.out, (pb HB)⟩)
               ·skip
                refine bx 15 #[.int .u64 0, .int .u64 0] 50 ?_
                intro gb335 hg w46 hbox hb
                have HS4_ := (hb.cell (World.block_lt_of_cell? _ _ (hHeld.2.2.2.2.1))).trans (hHeld.2.2.2.2.1);have HS5_ := (hb.cell (World.block_lt_of_cell? _ _ (hHeld.2.2.2.2.2.1))).trans (hHeld.2.2.2.2.2.1);have HS6_ := (hb.cell (World.block_lt_of_cell? _ _ (hHeld.2.2.2.2.2.2.1))).trans (hHeld.2.2.2.2.2.2.1);have HS7_ := (hb.cell (World.block_lt_of_cell? _ _ (hHeld.2.2.2.2.2.2.2))).trans (hHeld.2.2.2.2.2.2.2);have n0_ := am (Kd.R_below (pr HO_10.out) hb);have n1_ := am (blk_below (pk BK319.out) hb);have n2_ := am (blk_below (pk BK327.out) hb);have n3_ := am (below_step (pb HB) hb);have n4_ := am (hbox);have n5_ := am ((pg hg HB : w.heap.size ≤ gb335));have n6_ := am ((pg hg HB : w.heap.size ≤ gb335));have n7_ := am ((pl hg (pk BK319.out) : gb319 ≠ gb335));have n8_ := am ((pl' hg (pk BK319.out) : gb335 ≠ gb319));have n9_ := am ((pl hg (pk BK327.out) : gb327 ≠ gb335));have n10_ := am ((pl' hg (pk BK327.out) : gb335 ≠ gb327));clear HO_10 BK319 BK327 HB;have HO_10 := n0_;have BK319 := n1_;have BK327 := n2_;have HB := n3_;have BK335 := n4_;have GW335 := n5_;have GE335 := n6_;have NB319_335 := n7_;have NB335_319 := n8_;have NB327_335 := n9_;have NB335_327 := n10_;clear n0_ n1_ n2_ n3_ n4_ n5_ n6_ n7_ n8_ n9_ n10_ hb hbox hg
                refine hK.out _ _ ⟨ce BK327 0, ce BK327 1, ce BK327 2, ce BK327 3, HS4_, HS5_, HS6_, HS7_⟩ (fun hHeld => ?_)
                clear hK K
                refine nm ?_
                refine on1 7 (fun K hK => ?_)
                refine gs Try.func31 #[.agg #[.int .u64 ((rd_T60 x10_1 x13_9).f2.f0), .int .u64 ((rd_T60 x10_1 x13_9).f2.f1)], .agg #[.int .u64 ((rd_T50 l2 x11_1).f0), .int .u64 ((rd_T50 l2 x11_1).f1)]] ?_
                with_reducible refine (r01_Add.calls ((rd_T60 x10_1 x13_9).f2.f0) ((rd_T60 x10_1 x13_9).f2.f1) ((rd_T50 l2 x11_1).f0) ((rd_T50 l2 x11_1).f1) t332 t333 true _ A41.out).mono ?_
                rintro e w47 ⟨rfl, hb⟩
                have HS4_ := (hb.cell (World.block_lt_of_cell? _ _ (hHeld.2.2.2.2.1))).trans (hHeld.2.2.2.2.1);have HS5_ := (hb.cell (World.block_lt_of_cell? _ _ (hHeld.2.2.2.2.2.1))).trans (hHeld.2.2.2.2.2.1);have HS6_ := (hb.cell (World.block_lt_of_cell? _ _ (hHeld.2.2.2.2.2.2.1))).trans (hHeld.2.2.2.2.2.2.1);have HS7_ := (hb.cell (World.block_lt_of_cell? _ _ (hHeld.2.2.2.2.2.2.2))).trans (hHeld.2.2.2.2.2.2.2)
                refine ⟨_, rfl, ?_⟩
                replace HO_10 := am (Kd.R_below (pr HO_10.out) hb);replace BK319 := am (blk_below (pk BK319.out) hb);replace BK327 := am (blk_below (pk BK327.out) hb);replace BK335 := am (blk_below (pk BK335.out) hb);replace HB := am (below_step (pb HB) hb)
                (try clear hb)
                (try clear hb2)
                (try clear hk)
                (try clear hi)
                refine hK.out _ _ ⟨ce BK327 0, ce BK327 1, ce BK327 2, ce BK327 3, HS4_, HS5_, HS6_, HS7_⟩ (fun hHeld => ?_)
                clear hK K
                refine nm ?_
                refine pu 8 ?_
                refine pu 9 ?_
                refine pu 10 ?_
                exact nj (hCont (gb335) _ ⟨hHeld, (pr HO_10.out), (pk BK319.out), (pk BK327.out), (pk BK335.out), GW335.out, GE335.out, NB319_335.out, NB335_319.out, NB327_335.out, NB335_327.out, (pb HB)⟩)
              rintro gb335 w48 ⟨hS_, h0_, h1_, h2_, h3_, h4_, h5_, h6_, h7_, h8_, h9_, h10_⟩
              replace HO_10 : Aside0 (Kd.R k60 60 w48 w.heap.size (fun k_ => k_ ≠ gb327) (.slice (some ad331) x10_1.length co45) x10_1) := ⟨h0_⟩;replace BK319 : Aside0 (w48.heap[gb319]? = some (.cells #[.int .u64 a0_0, .int .u64 a0_1] 24 (0, 0))) := ⟨h1_⟩;replace BK327 : Aside0 (w48.heap[gb327]? = some (.cells #[.string (rdOf ByteArray.empty l1 x11_1), .int .u64 t325, .int .u64 ((rd_T50 l2 x11_1).f0), .int .u64 ((rd_T50 l2 x11_1).f1)] 60 (0, 0))) := ⟨h2_⟩;have BK335 : Aside0 (w48.heap[gb335]? = some (.cells #[.int .u64 0, .int .u64 0] 50 (0, 0))) := ⟨h3_⟩;have GW335 : Aside0 (w.heap.size ≤ gb335) := ⟨h4_⟩;have GE335 : Aside0 (w.heap.size ≤ gb335) := ⟨h5_⟩;have NB319_335 : Aside0 (gb319 ≠ gb335) := ⟨h6_⟩;have NB335_319 : Aside0 (gb335 ≠ gb319) := ⟨h7_⟩;have NB327_335 : Aside0 (gb327 ≠ gb335) := ⟨h8_⟩;have NB335_327 : Aside0 (gb335 ≠ gb327) := ⟨h9_⟩;replace HB : Aside0 (Below w.heap.size w w48) := ⟨h10_⟩;clear h0_ h1_ h2_ h3_ h4_ h5_ h6_ h7_ h8_ h9_ h10_;have hHeld : w48.cell? ⟨gb327, 0, none⟩ = some (.string (rdOf ByteArray.empty l1 x11_1)) ∧ w48.cell? ⟨gb327, 1, none⟩ = some (.int .u64 t325) ∧ w48.cell? ⟨gb327, 2, none⟩ = some (.int .u64 ((rd_T50 l2 x11_1).f0)) ∧ w48.cell? ⟨gb327, 3, none⟩ = some (.int .u64 ((rd_T50 l2 x11_1).f1)) ∧ w48.cell? (ad331.add ((x13_9).toNat * 4)) = some (.string ((rd_T60 x10_1 x13_9).f0)) ∧ w48.cell? ⟨(ad331.add ((x13_9).toNat * 4)).block, (ad331.add ((x13_9).toNat * 4)).off + 1, none⟩ = some (.int .u64 ((rd_T60 x10_1 x13_9).f1)) ∧ w48.cell? ⟨(ad331.add ((x13_9).toNat * 4)).block, (ad331.add ((x13_9).toNat * 4)).off + 2, none⟩ = some (.int .u64 ((rd_T60 x10_1 x13_9).f2.f0)) ∧ w48.cell? ⟨(ad331.add ((x13_9).toNat * 4)).block, (ad331.add ((x13_9).toNat * 4)).off + 3, none⟩ = some (.int .u64 ((rd_T60 x10_1 x13_9).f2.f1)) := hS_
              refine norm_ (a' := ?_) ?_ ?_
              rotate_left
              ·simp only [putAll, Act.put, List.setIfInBounds_toArray, List.set_cons_zero, List.set_cons_succ]
               rfl
              refine one_ (i := 12) (N := none) #[true, true, true, true, true, true, true, true, true, true, true, true, true, false] rfl rfl (one_of HT_.out (by kernel_rfl)) (by decide) (fun K hK => ?_)
              have hs49 : w48.cell? ⟨gb335, 0, none⟩ = some (.int .u64 0) := ce BK335 0;have hfs49 := blk_frozen BK335.out 0;have hns49_0 := NB319_335.out;have hns49_1 := NB327_335.out;have hms49_0 := NB335_319.out;have hms49_1 := NB335_327.out;have hs50 : w48.cell? ⟨gb335, 1, none⟩ = some (.int .u64 0) := ce BK335 1;have hfs50 := blk_frozen BK335.out 1;have hns50_0 := NB319_335.out;have hns50_1 := NB327_335.out;have hms50_0 := NB335_319.out;have hms50_1 := NB335_327.out
              refine skip_ (w1 := ?_) (by rfl) rfl ?_ ?_
              rotate_left
              ·go_simp
               rfl
              refine hK.out _ _ ⟨((cell_far (p := ⟨gb335, _, none⟩) NB327_335.out _).trans (((cell_far (p := ⟨gb335, _, none⟩) NB327_335.out _).trans (hHeld.1)))), ((cell_far (p := ⟨gb335, _, none⟩) NB327_335.out _).trans (((cell_far (p := ⟨gb335, _, none⟩) NB327_335.out _).trans (hHeld.2.1)))), ((cell_far (p := ⟨gb335, _, none⟩) NB327_335.out _).trans (((cell_far (p := ⟨gb335, _, none⟩) NB327_335.out _).trans (hHeld.2.2.1)))), ((cell_far (p := ⟨gb335, _, none⟩) NB327_335.out _).trans (((cell_far (p := ⟨gb335, _, none⟩) NB327_335.out _).trans (hHeld.2.2.2.1)))), ((cell_far (p := ⟨gb335, _, none⟩) (ab (Kd.own_blk (Kd.R_ne HO_10.out BK335.out (by decide)))) _).trans (((cell_far (p := ⟨gb335, _, none⟩) (ab (Kd.own_blk (Kd.R_ne HO_10.out BK335.out (by decide)))) _).trans (hHeld.2.2.2.2.1)))), ((cell_far (p := ⟨gb335, _, none⟩) (ab (Kd.own_blk (Kd.R_ne HO_10.out BK335.out (by decide)))) _).trans (((cell_far (p := ⟨gb335, _, none⟩) (ab (Kd.own_blk (Kd.R_ne HO_10.out BK335.out (by decide)))) _).trans (hHeld.2.2.2.2.2.1)))), ((cell_far (p := ⟨gb335, _, none⟩) (ab (Kd.own_blk (Kd.R_ne HO_10.out BK335.out (by decide)))) _).trans (((cell_far (p := ⟨gb335, _, none⟩) (ab (Kd.own_blk (Kd.R_ne HO_10.out BK335.out (by decide)))) _).trans (hHeld.2.2.2.2.2.2.1)))), ((cell_far (p := ⟨gb335, _, none⟩) (ab (Kd.own_blk (Kd.R_ne HO_10.out BK335.out (by decide)))) _).trans (((cell_far (p := ⟨gb335, _, none⟩) (ab (Kd.own_blk (Kd.R_ne HO_10.out BK335.out (by decide)))) _).trans (hHeld.2.2.2.2.2.2.2))))⟩ (fun hHeld => ?_)
              clear hK K
              refine pu 13 ?_
              refine done_ (done_of HT_.out (by kernel_rfl)) ?_
              have n0_ : Aside0 (Kd.R k60 60 ((w48.setCell ⟨gb335, 0, none⟩ (.int .u64 t332)).setCell ⟨gb335, 1, none⟩ (.int .u64 t333)) w.heap.size (fun k_ => k_ ≠ gb327) (.slice (some ad331) x10_1.length co45) x10_1) := ⟨by refine pr ?_; exact Kd.R_mono (Kd.R_far (p := ⟨gb335, 1, none⟩) (Kd.R_far (p := ⟨gb335, 0, none⟩) (Kd.R_types HO_10.out BK335.out (by decide)) (fun _ hk => hk.2) (.int .u64 t332)) (fun _ hk => hk.2) (.int .u64 t333)) (fun _ hk => hk.1)⟩;have n1_ : Aside0 (((w48.setCell ⟨gb335, 0, none⟩ (.int .u64 t332)).setCell ⟨gb335, 1, none⟩ (.int .u64 t333)).heap[gb319]? = some (.cells #[.int .u64 a0_0, .int .u64 a0_1] 24 (0, 0))) := ⟨by refine pk ?_; refine blk_far ?_ NB319_335.out _; refine pk ?_; refine blk_far ?_ NB319_335.out _; refine pk ?_; exact BK319.out⟩;have n2_ : Aside0 (((w48.setCell ⟨gb335, 0, none⟩ (.int .u64 t332)).setCell ⟨gb335, 1, none⟩ (.int .u64 t333)).heap[gb327]? = some (.cells #[.string (rdOf ByteArray.empty l1 x11_1), .int .u64 t325, .int .u64 ((rd_T50 l2 x11_1).f0), .int .u64 ((rd_T50 l2 x11_1).f1)] 60 (0, 0))) := ⟨by refine pk ?_; refine blk_far ?_ NB327_335.out _; refine pk ?_; refine blk_far ?_ NB327_335.out _; refine pk ?_; exact BK327.out⟩;have n3_ : Aside0 (((w48.setCell ⟨gb335, 0, none⟩ (.int .u64 t332)).setCell ⟨gb335, 1, none⟩ (.int .u64 t333)).heap[gb335]? = some (.cells #[.int .u64 t332, .int .u64 t333] 50 (0, 0))) := ⟨by refine pk ?_; refine blk_put (cs := #[.int .u64 t332, .int .u64 0]) ?_ 1 _ rfl; refine pk ?_; refine blk_put (cs := #[.int .u64 0, .int .u64 0]) ?_ 0 _ rfl; refine pk ?_; exact BK335.out⟩;have n4_ : Aside0 (Below w.heap.size w ((w48.setCell ⟨gb335, 0, none⟩ (.int .u64 t332)).setCell ⟨gb335, 1, none⟩ (.int .u64 t333))) := ⟨pb HB⟩
              (try clear HO_10)
              (try clear BK319)
              (try clear BK327)
              (try clear BK335)
              (try clear HB)
              generalize ((w48.setCell ⟨gb335, 0, none⟩ (.int .u64 t332)).setCell ⟨gb335, 1, none⟩ (.int .u64 t333)) = w51 at n0_ n1_ n2_ n3_ n4_ ⊢
              have HO_10 := n0_;have BK319 := n1_;have BK327 := n2_;have BK335 := n3_;have HB := n4_;clear n0_ n1_ n2_ n3_ n4_;have hnb52 := NB335_319.out;have hnc52 := NB319_335.out;have hnb53 := NB335_327.out;have hnc53 := NB327_335.out;obtain ⟨hcz54_0, hcz54_1, hfz54_0, hfz54_1⟩ := g2 BK335;have p43 : 0 ≤ (x13_9 : Int) := of_decide_eq_true (by first | (with_reducible assumption) | assumption);have q43 : (x13_9 : Int) < ((x10_1.length : Int) : Int) := of_decide_eq_true (by first | (with_reducible assumption) | assumption);obtain ⟨go43, co43, eo43, gb43, gl43, cl43, HG43⟩ := Kd.R_form HO_10.out (by omega)
              (first | cases eo43 | (injection eo43 with ea_ en_ ec_; (first | subst ea_ | (injection ea_ with ea_; subst ea_)); subst ec_; clear en_))
              have GB43 := am gb43;have GG43 := am HG43;clear gb43 gl43 HG43
              (first | simp only [add_plain] at hx331_0 | skip)
              (first | simp only [add_plain] at hx331_1 | skip)
              (first | simp only [add_plain] at hx331_2 | skip)
              (first | simp only [add_plain] at hx331_3 | skip)
              obtain ⟨ce43, hcl43, hM43, hcc43, hfr43⟩ := Kd.R_elem HO_10.out z60 (x13_9 : Int) p43 q43;obtain rfl := k60_openM hM43;have hx43_0 : w51.cell? ⟨go43, (x13_9 : Int).toNat * 4, none⟩ = some (.string ((rd_T60 x10_1 x13_9).f0)) := hcc43 0 _ rfl;have hx43_1 : w51.cell? ⟨go43, (x13_9 : Int).toNat * 4 + 1, none⟩ = some (.int .u64 ((rd_T60 x10_1 x13_9).f1)) := hcc43 1 _ rfl;have hx43_2 : w51.cell? ⟨go43, (x13_9 : Int).toNat * 4 + 2, none⟩ = some (.int .u64 ((rd_T60 x10_1 x13_9).f2.f0)) := hcc43 2 _ rfl;have hx43_3 : w51.cell? ⟨go43, (x13_9 : Int).toNat * 4 + 3, none⟩ = some (.int .u64 ((rd_T60 x10_1 x13_9).f2.f1)) := hcc43 3 _ rfl;have hf43_0 : w51.frozen? ⟨go43, (x13_9 : Int).toNat * 4, none⟩ = false := hfr43 0;have hf43_1 : w51.frozen? ⟨go43, (x13_9 : Int).toNat * 4 + 1, none⟩ = false := hfr43 1;have hf43_2 : w51.frozen? ⟨go43, (x13_9 : Int).toNat * 4 + 2, none⟩ = false := hfr43 2;have hf43_3 : w51.frozen? ⟨go43, (x13_9 : Int).toNat * 4 + 3, none⟩ = false := hfr43 3;clear hcl43 hcc43 hfr43 hM43;replace p43 := eq_true p43;replace q43 := eq_true q43;have HX55 := am (show Kd.R k60 60 w51 w.heap.size (fun k_ => k_ ≠ gb327) (.slice (some ⟨go43, 0, none⟩) x10_1.length co45) x10_1 from (pr HO_10.out));obtain ⟨ce55, hcl55, hM55, hcc55, hfr55⟩ := Kd.R_elem HX55.out z60 (x13_9 : Int) (of_decide_eq_true (by first | (with_reducible assumption) | assumption)) (by have h_ : (x13_9 : Int) < ((x10_1.length : Int) : Int) := of_decide_eq_true (by first | (with_reducible assumption) | assumption); first | exact h_ | (have e_ := (Kd.R_reads' HO_10.out).1; omega) | simpa using h_);obtain rfl := k60_openM hM55;have HP55 := Kd.R_seg HX55.out (x13_9 : Int) (of_decide_eq_true (by first | (with_reducible assumption) | assumption)) (by have h_ : (x13_9 : Int) < ((x10_1.length : Int) : Int) := of_decide_eq_true (by first | (with_reducible assumption) | assumption); first | exact h_ | (have e_ := (Kd.R_reads' HO_10.out).1; omega) | simpa using h_) (seg := [.int .u64 t332, .int .u64 t333]) (j := 2) hcl55 hcc55 (show 4 ≤ 4 from by decide) (x' := (⟨(rd_T60 x10_1 x13_9).f0, (rd_T60 x10_1 x13_9).f1, (⟨t332, t333⟩ : S50)⟩ : S60)) (k60_mkM _ _ _ (⟨(rd_T60 x10_1 x13_9).f0, (rd_T60 x10_1 x13_9).f1, (⟨t332, t333⟩ : S50)⟩ : S60) ) (fun _ hk => hk);have hx55_2 := hcc55 2 _ rfl
              (try simp only [show (k60).sz = 4 from rfl, Nat.mul_one, Nat.add_zero] at hx55_2)
              have hf55_2 := hfr55 2
              (try simp only [show (k60).sz = 4 from rfl, Nat.mul_one, Nat.add_zero] at hf55_2)
              have hx55_3 := hcc55 3 _ rfl
              (try simp only [show (k60).sz = 4 from rfl, Nat.mul_one, Nat.add_zero] at hx55_3)
              have hf55_3 := hfr55 3
              (try simp only [show (k60).sz = 4 from rfl, Nat.mul_one, Nat.add_zero] at hf55_3)
              clear hcl55 hcc55 hfr55 hM55
              try go_wp2_with (first | ((with_reducible refine gate_store (t := 50) (p := 85) rfl ?_); refine store_event (t := 50) (p := 85) (v := ?vo_w56) (w1 := ((w51.setCell ⟨go43, (x13_9 : Int).toNat * 4 + 2, none⟩ (.int .u64 t332)).setCell ⟨go43, (x13_9 : Int).toNat * 4 + 3, none⟩ (.int .u64 t333))) ?hg ?ho ?hn ?hr ?_; (case ho => rfl); (case hg => rfl); (case hn => rfl); (case hr => first | (go_simp; done) | (go_simp; rfl)); intro w56 hw; have hg : w51.grownBy w56 (some go43) := (by rw [hw]; exact HP55.2); have hp_ : Kd.R k60 60 w56 w.heap.size (fun k_ => k_ ≠ gb327) (.slice (some ⟨go43, 0, none⟩) x10_1.length co45) y336 := (by rw [hw, Ny336.out]; exact HP55.1); clear HP55; replace BK319 := am (blk_grown (g := gb319) (o := .cells #[.int .u64 a0_0, .int .u64 a0_1] 24 (0, 0)) (pk BK319.out) hg (Kd.R_ne HO_10.out BK319.out (by decide))); replace BK327 := am (blk_grown (g := gb327) (o := .cells #[.string (rdOf ByteArray.empty l1 x11_1), .int .u64 t325, .int .u64 ((rd_T50 l2 x11_1).f0), .int .u64 ((rd_T50 l2 x11_1).f1)] 60 (0, 0)) (pk BK327.out) hg (Kd.R_away HO_10.out (fun _ hk => hk))); replace BK335 := am (blk_grown (g := gb335) (o := .cells #[.int .u64 t332, .int .u64 t333] 50 (0, 0)) (pk BK335.out) hg (Kd.R_ne HO_10.out BK335.out (by decide))); replace HO_10 := am (hp_); replace HB := am ((by rw [hw]; exact below_set (below_set (HB.out) GB43.out) GB43.out : Below w.heap.size w w56)); clear hg hw hp_))
              go_roundg kj30
              case measure => have := HK1.out; have := HJ9.out; have := HJ30.out; omega
              case rel => exact ⟨(y336), (wrap64 (x11_1 + 1)), (by first | rfl | (simp; done) | (simp [*]; done)), H', ⟨by have := HK1.out; have := HJ9.out; have := HJ30.out; omega⟩, ⟨by refine pr ?_; exact Kd.R_mono HO_10.out (fun _ hk => trivial)⟩, ⟨pk BK319.out⟩, ⟨pb HB⟩⟩
             ·replace c42 := Bool.eq_false_iff.mpr c42;subst c42
              have H1 : (some (([] : List (S60)), false)) = some (r1, r2) := by rw [if_neg (show ¬ (false = true) by decide)] at H; exact H
              clear H;have H := H1;clear H1
              simp only [Option.some.injEq, Prod.mk.injEq] at H
              obtain ⟨rfl, rfl⟩ := H
              try go_wp2
              replace HO_10 := am (Kd.R_drew HO_10.out);replace BK319 := am (blk_drew BK319.out);replace BK327 := am (blk_drew BK327.out);replace HB := am (below_drew1 HB.out);obtain ⟨Ao58, co58, eo58⟩ := Kd.R_slice HO_10.out
              (first | subst eo58 | (injection eo58 with f1_ f2_ f3_; have f4_ := f1_.symm; have f5_ := f3_.symm; clear f1_ f2_ f3_; subst f4_; subst f5_))
              have p331 : 0 ≤ (x13_9 : Int) := of_decide_eq_true (by first | (with_reducible assumption) | assumption);have q331 : x13_9 < (x10_1.length : Int) := of_decide_eq_true (by first | (with_reducible assumption) | assumption);obtain ⟨ad331, e331, hx331_0, hx331_1, hx331_2, hx331_3⟩ := at_T60 (Kd.R_reads' HO_10.out).2.2 x13_9 p331 q331;cases e331;replace p331 := eq_true p331;replace q331 := eq_true q331
              refine start_ (n := 14) (S := fun w' => w'.cell? ⟨gb327, 0, none⟩ = some (.string (rdOf ByteArray.empty l1 x11_1)) ∧ w'.cell? ⟨gb327, 1, none⟩ = some (.int .u64 t325) ∧ w'.cell? ⟨gb327, 2, none⟩ = some (.int .u64 ((rd_T50 l2 x11_1).f0)) ∧ w'.cell? ⟨gb327, 3, none⟩ = some (.int .u64 ((rd_T50 l2 x11_1).f1)) ∧ w'.cell? (ad331.add ((x13_9).toNat * 4)) = some (.string ((rd_T60 x10_1 x13_9).f0)) ∧ w'.cell? ⟨(ad331.add ((x13_9).toNat * 4)).block, (ad331.add ((x13_9).toNat * 4)).off + 1, none⟩ = some (.int .u64 ((rd_T60 x10_1 x13_9).f1)) ∧ w'.cell? ⟨(ad331.add ((x13_9).toNat * 4)).block, (ad331.add ((x13_9).toNat * 4)).off + 2, none⟩ = some (.int .u64 ((rd_T60 x10_1 x13_9).f2.f0)) ∧ w'.cell? ⟨(ad331.add ((x13_9).toNat * 4)).block, (ad331.add ((x13_9).toNat * 4)).off + 3, none⟩ = some (.int .u64 ((rd_T60 x10_1 x13_9).f2.f1))) (ds := []) #[false, false, false, false, false, false, false, false, false, false, false, false, false, false] (by kernel_rfl) rfl rfl ⟨ce BK327 0, ce BK327 1, ce BK327 2, ce BK327 3, hx331_0, hx331_1, hx331_2, hx331_3⟩ (fun hHeld => ?_); refine with_tabW r14_Model.tab11 r14_Model.bits11 (fun HT_ HW_ => ?_)
              generalize wc.drew = w57 at HO_10 BK319 BK327 HB hx331_0 hx331_1 hx331_2 hx331_3 hHeld ⊢
              refine pu 0 ?_
              refine pu 1 ?_
              refine pu 2 ?_
              refine pu 3 ?_
              refine pu 5 ?_
              refine ta 4 hHeld ?_
              refine ta 6 hHeld ?_
              refine join_ (σ := Nat) 2 #[true, true, true, true, true, true, true, true, true, true, true, true, false, false] (fun s_ => [(76, .tuple #[.agg #[.int .u64 t332, .int .u64 t333], .bool false]), (15, .pointer (some ⟨s_, 0, none⟩)), (68, .tuple #[.agg #[.int .u64 t332, .int .u64 t333], .bool false]), (77, .agg #[.int .u64 t332, .int .u64 t333]), (78, .bool false)]) (fun s_ w' => (w'.cell? ⟨gb327, 0, none⟩ = some (.string (rdOf ByteArray.empty l1 x11_1)) ∧ w'.cell? ⟨gb327, 1, none⟩ = some (.int .u64 t325) ∧ w'.cell? ⟨gb327, 2, none⟩ = some (.int .u64 ((rd_T50 l2 x11_1).f0)) ∧ w'.cell? ⟨gb327, 3, none⟩ = some (.int .u64 ((rd_T50 l2 x11_1).f1)) ∧ w'.cell? (ad331.add ((x13_9).toNat * 4)) = some (.string ((rd_T60 x10_1 x13_9).f0)) ∧ w'.cell? ⟨(ad331.add ((x13_9).toNat * 4)).block, (ad331.add ((x13_9).toNat * 4)).off + 1, none⟩ = some (.int .u64 ((rd_T60 x10_1 x13_9).f1)) ∧ w'.cell? ⟨(ad331.add ((x13_9).toNat * 4)).block, (ad331.add ((x13_9).toNat * 4)).off + 2, none⟩ = some (.int .u64 ((rd_T60 x10_1 x13_9).f2.f0)) ∧ w'.cell? ⟨(ad331.add ((x13_9).toNat * 4)).block, (ad331.add ((x13_9).toNat * 4)).off + 3, none⟩ = some (.int .u64 ((rd_T60 x10_1 x13_9).f2.f1))) ∧ (Kd.R k60 60 w' w.heap.size (fun k_ => k_ ≠ gb327) (.slice (some ad331) x10_1.length co58) x10_1) ∧ (w'.heap[gb319]? = some (.cells #[.int .u64 a0_0, .int .u64 a0_1] 24 (0, 0))) ∧ (w'.heap[gb327]? = some (.cells #[.string (rdOf ByteArray.empty l1 x11_1), .int .u64 t325, .int .u64 ((rd_T50 l2 x11_1).f0), .int .u64 ((rd_T50 l2 x11_1).f1)] 60 (0, 0))) ∧ (w'.heap[s_]? = some (.cells #[.int .u64 0, .int .u64 0] 50 (0, 0))) ∧ (w.heap.size ≤ s_) ∧ (w.heap.size ≤ s_) ∧ (gb319 ≠ s_) ∧ (s_ ≠ gb319) ∧ (gb327 ≠ s_) ∧ (s_ ≠ gb327) ∧ (Below w.heap.size w w')) ?_ ?_
              rotate_left
              ·intro hCont
               refine two_ (i := 7) (j := 11) (Ni := some 76) (Nj := some 15) #[true, true, true, true, true, true, true, true, false, false, false, false, false, false] #[true, true, true, true, true, true, true, false, false, false, false, true, false, false] rfl rfl rfl rfl (two_of HT_.out (by kernel_rfl)) (by decide) (by decide) (fun K hK => ?_) (fun K hK => ?_)
               ·skip
                refine gs Try.func31 #[.agg #[.int .u64 ((rd_T60 x10_1 x13_9).f2.f0), .int .u64 ((rd_T60 x10_1 x13_9).f2.f1)], .agg #[.int .u64 ((rd_T50 l2 x11_1).f0), .int .u64 ((rd_T50 l2 x11_1).f1)]] ?_
                with_reducible refine (r01_Add.calls ((rd_T60 x10_1 x13_9).f2.f0) ((rd_T60 x10_1 x13_9).f2.f1) ((rd_T50 l2 x11_1).f0) ((rd_T50 l2 x11_1).f1) t332 t333 false _ A41.out).mono ?_
                rintro e w59 ⟨rfl, hb⟩
                have HS4_ := (hb.cell (World.block_lt_of_cell? _ _ (hHeld.2.2.2.2.1))).trans (hHeld.2.2.2.2.1);have HS5_ := (hb.cell (World.block_lt_of_cell? _ _ (hHeld.2.2.2.2.2.1))).trans (hHeld.2.2.2.2.2.1);have HS6_ := (hb.cell (World.block_lt_of_cell? _ _ (hHeld.2.2.2.2.2.2.1))).trans (hHeld.2.2.2.2.2.2.1);have HS7_ := (hb.cell (World.block_lt_of_cell? _ _ (hHeld.2.2.2.2.2.2.2))).trans (hHeld.2.2.2.2.2.2.2)
                refine ⟨_, rfl, ?_⟩
                replace HO_10 := am (Kd.R_below (pr HO_10.out) hb);replace BK319 := am (blk_below (pk BK319.out) hb);replace BK327 := am (blk_below (pk BK327.out) hb);replace HB := am (below_step (pb HB) hb)
                (try clear hb)
                (try clear hb2)
                (try clear hk)
                (try clear hi)
                refine hK.out _ _ ⟨ce BK327 0, ce BK327 1, ce BK327 2, ce BK327 3, HS4_, HS5_, HS6_, HS7_⟩ (fun hHeld => ?_)
                clear hK K
                refine nm ?_
                refine pu 8 ?_
                refine pu 9 ?_
                refine pu 10 ?_
                refine on1 11 (fun K hK => ?_)
                refine bx 15 #[.int .u64 0, .int .u64 0] 50 ?_
                intro gb335 hg w60 hbox hb
                have HS4_ := (hb.cell (World.block_lt_of_cell? _ _ (hHeld.2.2.2.2.1))).trans (hHeld.2.2.2.2.1);have HS5_ := (hb.cell (World.block_lt_of_cell? _ _ (hHeld.2.2.2.2.2.1))).trans (hHeld.2.2.2.2.2.1);have HS6_ := (hb.cell (World.block_lt_of_cell? _ _ (hHeld.2.2.2.2.2.2.1))).trans (hHeld.2.2.2.2.2.2.1);have HS7_ := (hb.cell (World.block_lt_of_cell? _ _ (hHeld.2.2.2.2.2.2.2))).trans (hHeld.2.2.2.2.2.2.2);have n0_ := am (Kd.R_below (pr HO_10.out) hb);have n1_ := am (blk_below (pk BK319.out) hb);have n2_ := am (blk_below (pk BK327.out) hb);have n3_ := am (below_step (pb HB) hb);have n4_ := am (hbox);have n5_ := am ((pg hg HB : w.heap.size ≤ gb335));have n6_ := am ((pg hg HB : w.heap.size ≤ gb335));have n7_ := am ((pl hg (pk BK319.out) : gb319 ≠ gb335));have n8_ := am ((pl' hg (pk BK319.out) : gb335 ≠ gb319));have n9_ := am ((pl hg (pk BK327.out) : gb327 ≠ gb335));have n10_ := am ((pl' hg (pk BK327.out) : gb335 ≠ gb327));clear HO_10 BK319 BK327 HB;have HO_10 := n0_;have BK319 := n1_;have BK327 := n2_;have HB := n3_;have BK335 := n4_;have GW335 := n5_;have GE335 := n6_;have NB319_335 := n7_;have NB335_319 := n8_;have NB327_335 := n9_;have NB335_327 := n10_;clear n0_ n1_ n2_ n3_ n4_ n5_ n6_ n7_ n8_ n9_ n10_ hb hbox hg
                refine hK.out _ _ ⟨ce BK327 0, ce BK327 1, ce BK327 2, ce BK327 3, HS4_, HS5_, HS6_, HS7_⟩ (fun hHeld => ?_)
                clear hK K
                refine nm ?_
                exact nj (hCont (gb335) _ ⟨hHeld, (pr HO_10.out), (pk BK319.out), (pk BK327.out), (pk BK335.out), GW335.out, GE335.out, NB319_335.out, NB335_319.out, NB327_335.out, NB335_327.out, (pb HB)⟩)
               ·skip
                refine bx 15 #[.int .u64 0, .int .u64 0] 50 ?_
                intro gb335 hg w59 hbox hb
                have HS4_ := (hb.cell (World.block_lt_of_cell? _ _ (hHeld.2.2.2.2.1))).trans (hHeld.2.2.2.2.1);have HS5_ := (hb.cell (World.block_lt_of_cell? _ _ (hHeld.2.2.2.2.2.1))).trans (hHeld.2.2.2.2.2.1);have HS6_ := (hb.cell (World.block_lt_of_cell? _ _ (hHeld.2.2.2.2.2.2.1))).trans (hHeld.2.2.2.2.2.2.1);have HS7_ := (hb.cell (World.block_lt_of_cell? _ _ (hHeld.2.2.2.2.2.2.2))).trans (hHeld.2.2.2.2.2.2.2);have n0_ := am (Kd.R_below (pr HO_10.out) hb);have n1_ := am (blk_below (pk BK319.out) hb);have n2_ := am (blk_below (pk BK327.out) hb);have n3_ := am (below_step (pb HB) hb);have n4_ := am (hbox);have n5_ := am ((pg hg HB : w.heap.size ≤ gb335));have n6_ := am ((pg hg HB : w.heap.size ≤ gb335));have n7_ := am ((pl hg (pk BK319.out) : gb319 ≠ gb335));have n8_ := am ((pl' hg (pk BK319.out) : gb335 ≠ gb319));have n9_ := am ((pl hg (pk BK327.out) : gb327 ≠ gb335));have n10_ := am ((pl' hg (pk BK327.out) : gb335 ≠ gb327));clear HO_10 BK319 BK327 HB;have HO_10 := n0_;have BK319 := n1_;have BK327 := n2_;have HB := n3_;have BK335 := n4_;have GW335 := n5_;have GE335 := n6_;have NB319_335 := n7_;have NB335_319 := n8_;have NB327_335 := n9_;have NB335_327 := n10_;clear n0_ n1_ n2_ n3_ n4_ n5_ n6_ n7_ n8_ n9_ n10_ hb hbox hg
                refine hK.out _ _ ⟨ce BK327 0, ce BK327 1, ce BK327 2, ce BK327 3, HS4_, HS5_, HS6_, HS7_⟩ (fun hHeld => ?_)
                clear hK K
                refine nm ?_
                refine on1 7 (fun K hK => ?_)
                refine gs Try.func31 #[.agg #[.int .u64 ((rd_T60 x10_1 x13_9).f2.f0), .int .u64 ((rd_T60 x10_1 x13_9).f2.f1)], .agg #[.int .u64 ((rd_T50 l2 x11_1).f0), .int .u64 ((rd_T50 l2 x11_1).f1)]] ?_
                with_reducible refine (r01_Add.calls ((rd_T60 x10_1 x13_9).f2.f0) ((rd_T60 x10_1 x13_9).f2.f1) ((rd_T50 l2 x11_1).f0) ((rd_T50 l2 x11_1).f1) t332 t333 false _ A41.out).mono ?_
                rintro e w60 ⟨rfl, hb⟩
                have HS4_ := (hb.cell (World.block_lt_of_cell? _ _ (hHeld.2.2.2.2.1))).trans (hHeld.2.2.2.2.1);have HS5_ := (hb.cell (World.block_lt_of_cell? _ _ (hHeld.2.2.2.2.2.1))).trans (hHeld.2.2.2.2.2.1);have HS6_ := (hb.cell (World.block_lt_of_cell? _ _ (hHeld.2.2.2.2.2.2.1))).trans (hHeld.2.2.2.2.2.2.1);have HS7_ := (hb.cell (World.block_lt_of_cell? _ _ (hHeld.2.2.2.2.2.2.2))).trans (hHeld.2.2.2.2.2.2.2)
                refine ⟨_, rfl, ?_⟩
                replace HO_10 := am (Kd.R_below (pr HO_10.out) hb);replace BK319 := am (blk_below (pk BK319.out) hb);replace BK327 := am (blk_below (pk BK327.out) hb);replace BK335 := am (blk_below (pk BK335.out) hb);replace HB := am (below_step (pb HB) hb)
                (try clear hb)
                (try clear hb2)
                (try clear hk)
                (try clear hi)
                refine hK.out _ _ ⟨ce BK327 0, ce BK327 1, ce BK327 2, ce BK327 3, HS4_, HS5_, HS6_, HS7_⟩ (fun hHeld => ?_)
                clear hK K
                refine nm ?_
                refine pu 8 ?_
                refine pu 9 ?_
                refine pu 10 ?_
                exact nj (hCont (gb335) _ ⟨hHeld, (pr HO_10.out), (pk BK319.out), (pk BK327.out), (pk BK335.out), GW335.out, GE335.out, NB319_335.out, NB335_319.out, NB327_335.out, NB335_327.out, (pb HB)⟩)
              rintro gb335 w61 ⟨hS_, h0_, h1_, h2_, h3_, h4_, h5_, h6_, h7_, h8_, h9_, h10_⟩
              replace HO_10 : Aside0 (Kd.R k60 60 w61 w.heap.size (fun k_ => k_ ≠ gb327) (.slice (some ad331) x10_1.length co58) x10_1) := ⟨h0_⟩;replace BK319 : Aside0 (w61.heap[gb319]? = some (.cells #[.int .u64 a0_0, .int .u64 a0_1] 24 (0, 0))) := ⟨h1_⟩;replace BK327 : Aside0 (w61.heap[gb327]? = some (.cells #[.string (rdOf ByteArray.empty l1 x11_1), .int .u64 t325, .int .u64 ((rd_T50 l2 x11_1).f0), .int .u64 ((rd_T50 l2 x11_1).f1)] 60 (0, 0))) := ⟨h2_⟩;have BK335 : Aside0 (w61.heap[gb335]? = some (.cells #[.int .u64 0, .int .u64 0] 50 (0, 0))) := ⟨h3_⟩;have GW335 : Aside0 (w.heap.size ≤ gb335) := ⟨h4_⟩;have GE335 : Aside0 (w.heap.size ≤ gb335) := ⟨h5_⟩;have NB319_335 : Aside0 (gb319 ≠ gb335) := ⟨h6_⟩;have NB335_319 : Aside0 (gb335 ≠ gb319) := ⟨h7_⟩;have NB327_335 : Aside0 (gb327 ≠ gb335) := ⟨h8_⟩;have NB335_327 : Aside0 (gb335 ≠ gb327) := ⟨h9_⟩;replace HB : Aside0 (Below w.heap.size w w61) := ⟨h10_⟩;clear h0_ h1_ h2_ h3_ h4_ h5_ h6_ h7_ h8_ h9_ h10_;have hHeld : w61.cell? ⟨gb327, 0, none⟩ = some (.string (rdOf ByteArray.empty l1 x11_1)) ∧ w61.cell? ⟨gb327, 1, none⟩ = some (.int .u64 t325) ∧ w61.cell? ⟨gb327, 2, none⟩ = some (.int .u64 ((rd_T50 l2 x11_1).f0)) ∧ w61.cell? ⟨gb327, 3, none⟩ = some (.int .u64 ((rd_T50 l2 x11_1).f1)) ∧ w61.cell? (ad331.add ((x13_9).toNat * 4)) = some (.string ((rd_T60 x10_1 x13_9).f0)) ∧ w61.cell? ⟨(ad331.add ((x13_9).toNat * 4)).block, (ad331.add ((x13_9).toNat * 4)).off + 1, none⟩ = some (.int .u64 ((rd_T60 x10_1 x13_9).f1)) ∧ w61.cell? ⟨(ad331.add ((x13_9).toNat * 4)).block, (ad331.add ((x13_9).toNat * 4)).off + 2, none⟩ = some (.int .u64 ((rd_T60 x10_1 x13_9).f2.f0)) ∧ w61.cell? ⟨(ad331.add ((x13_9).toNat * 4)).block, (ad331.add ((x13_9).toNat * 4)).off + 3, none⟩ = some (.int .u64 ((rd_T60 x10_1 x13_9).f2.f1)) := hS_
              refine norm_ (a' := ?_) ?_ ?_
              rotate_left
              ·simp only [putAll, Act.put, List.setIfInBounds_toArray, List.set_cons_zero, List.set_cons_succ]
               rfl
              refine one_ (i := 12) (N := none) #[true, true, true, true, true, true, true, true, true, true, true, true, true, false] rfl rfl (one_of HT_.out (by kernel_rfl)) (by decide) (fun K hK => ?_)
              have hs62 : w61.cell? ⟨gb335, 0, none⟩ = some (.int .u64 0) := ce BK335 0;have hfs62 := blk_frozen BK335.out 0;have hns62_0 := NB319_335.out;have hns62_1 := NB327_335.out;have hms62_0 := NB335_319.out;have hms62_1 := NB335_327.out;have hs63 : w61.cell? ⟨gb335, 1, none⟩ = some (.int .u64 0) := ce BK335 1;have hfs63 := blk_frozen BK335.out 1;have hns63_0 := NB319_335.out;have hns63_1 := NB327_335.out;have hms63_0 := NB335_319.out;have hms63_1 := NB335_327.out
              refine skip_ (w1 := ?_) (by rfl) rfl ?_ ?_
              rotate_left
              ·go_simp
               rfl
              refine hK.out _ _ ⟨((cell_far (p := ⟨gb335, _, none⟩) NB327_335.out _).trans (((cell_far (p := ⟨gb335, _, none⟩) NB327_335.out _).trans (hHeld.1)))), ((cell_far (p := ⟨gb335, _, none⟩) NB327_335.out _).trans (((cell_far (p := ⟨gb335, _, none⟩) NB327_335.out _).trans (hHeld.2.1)))), ((cell_far (p := ⟨gb335, _, none⟩) NB327_335.out _).trans (((cell_far (p := ⟨gb335, _, none⟩) NB327_335.out _).trans (hHeld.2.2.1)))), ((cell_far (p := ⟨gb335, _, none⟩) NB327_335.out _).trans (((cell_far (p := ⟨gb335, _, none⟩) NB327_335.out _).trans (hHeld.2.2.2.1)))), ((cell_far (p := ⟨gb335, _, none⟩) (ab (Kd.own_blk (Kd.R_ne HO_10.out BK335.out (by decide)))) _).trans (((cell_far (p := ⟨gb335, _, none⟩) (ab (Kd.own_blk (Kd.R_ne HO_10.out BK335.out (by decide)))) _).trans (hHeld.2.2.2.2.1)))), ((cell_far (p := ⟨gb335, _, none⟩) (ab (Kd.own_blk (Kd.R_ne HO_10.out BK335.out (by decide)))) _).trans (((cell_far (p := ⟨gb335, _, none⟩) (ab (Kd.own_blk (Kd.R_ne HO_10.out BK335.out (by decide)))) _).trans (hHeld.2.2.2.2.2.1)))), ((cell_far (p := ⟨gb335, _, none⟩) (ab (Kd.own_blk (Kd.R_ne HO_10.out BK335.out (by decide)))) _).trans (((cell_far (p := ⟨gb335, _, none⟩) (ab (Kd.own_blk (Kd.R_ne HO_10.out BK335.out (by decide)))) _).trans (hHeld.2.2.2.2.2.2.1)))), ((cell_far (p := ⟨gb335, _, none⟩) (ab (Kd.own_blk (Kd.R_ne HO_10.out BK335.out (by decide)))) _).trans (((cell_far (p := ⟨gb335, _, none⟩) (ab (Kd.own_blk (Kd.R_ne HO_10.out BK335.out (by decide)))) _).trans (hHeld.2.2.2.2.2.2.2))))⟩ (fun hHeld => ?_)
              clear hK K
              refine pu 13 ?_
              refine done_ (done_of HT_.out (by kernel_rfl)) ?_
              try go_wp2
              go_ret2
              exact ⟨_, by first | rfl | (simp [errW_none, errW_some] <;> rfl) | (simp [*, errW_none, errW_some] <;> rfl), by first | exact Kd.R_nil _ _ _ _ _ | exact Kd.N_nil _ _ _ _ _ | exact Kd.V_nil _ _ _ _ _ | exact Kd.Q_nil _ _ _ _ _ | exact Kd.S_nil _ _ _ _ _, pb HB⟩
            ·rw [if_neg c40] at H;exact absurd H (by simp)
           ·rw [if_neg c39] at H;exact absurd H (by simp)
          ·replace c38 := Bool.eq_false_iff.mpr c38;subst c38
           have H1 : (if 0 ≤ x13_9 then (if x13_9 ≤ (x10_1.length : Int) then ((some (x10_1.take (x13_9 : Int).toNat : List (S60))).bind fun y337 => (if ([] : List (S60)).length + y337.length < 3518437208883 then ((some (([] : List (S60)) ++ y337 : List (S60))).bind fun y341 => (if y341.length < 3518437208883 then ((some (y341 ++ [(⟨(rdOf ByteArray.empty l1 x11_1), t325, (⟨((rd_T50 l2 x11_1).f0), ((rd_T50 l2 x11_1).f1)⟩ : S50)⟩ : S60)] : List (S60))).bind fun y344 => ((some (x10_1.drop (x13_9 : Int).toNat : List (S60))).bind fun y347 => (if y344.length + y347.length < 3518437208883 then (r14_Model.l0 kj30 l1 l2 a3 (y344 ++ y347) (wrap64 (x11_1 + 1)) a0_0 a0_1) else (none)))) else (none))) else (none))) else (none)) else (none)) = some (r1, r2) := by rw [if_neg (show ¬ (false = true) by decide)] at H; exact H
           clear H;have H := H1;clear H1
           by_cases c64 : 0 ≤ x13_9
           ·rw [if_pos c64] at H;have c64b0 := eq_true c64;have c64b1 : decide (0 ≤ x13_9) = true := decide_eq_true c64;clear c64
            by_cases c65 : x13_9 ≤ (x10_1.length : Int)
            ·rw [if_pos c65] at H;have c65b0 := eq_true c65;have c65b1 : decide (x13_9 ≤ (x10_1.length : Int)) = true := decide_eq_true c65;clear c65;obtain ⟨y337, hy337⟩ : ∃ y_ : List (S60), y_ = (x10_1.take (x13_9 : Int).toNat) := ⟨_, rfl⟩
             replace H : (if ([] : List (S60)).length + y337.length < 3518437208883 then ((some (([] : List (S60)) ++ y337 : List (S60))).bind fun y341 => (if y341.length < 3518437208883 then ((some (y341 ++ [(⟨(rdOf ByteArray.empty l1 x11_1), t325, (⟨((rd_T50 l2 x11_1).f0), ((rd_T50 l2 x11_1).f1)⟩ : S50)⟩ : S60)] : List (S60))).bind fun y344 => ((some (x10_1.drop (x13_9 : Int).toNat : List (S60))).bind fun y347 => (if y344.length + y347.length < 3518437208883 then (r14_Model.l0 kj30 l1 l2 a3 (y344 ++ y347) (wrap64 (x11_1 + 1)) a0_0 a0_1) else (none)))) else (none))) else (none)) = some (r1, r2) := by first | (rw [hy337]; with_reducible exact H) | (have H2_ := (Option.bind_some _ _).symm.trans H; rw [hy337]; with_reducible exact H2_) | (have H2_ := (Option.bind_some _ _).symm.trans H; with_reducible exact H2_) | with_reducible exact H | (rw [hy337]; exact H) | exact H
             have Ny337 := am hy337;clear hy337
             by_cases c66 : ([] : List (S60)).length + y337.length < 3518437208883
             ·rw [if_pos c66] at H;have LMc66 := am c66;clear c66;obtain ⟨y341, hy341⟩ : ∃ y_ : List (S60), y_ = (([] : List (S60)) ++ y337) := ⟨_, rfl⟩
              replace H : (if y341.length < 3518437208883 then ((some (y341 ++ [(⟨(rdOf ByteArray.empty l1 x11_1), t325, (⟨((rd_T50 l2 x11_1).f0), ((rd_T50 l2 x11_1).f1)⟩ : S50)⟩ : S60)] : List (S60))).bind fun y344 => ((some (x10_1.drop (x13_9 : Int).toNat : List (S60))).bind fun y347 => (if y344.length + y347.length < 3518437208883 then (r14_Model.l0 kj30 l1 l2 a3 (y344 ++ y347) (wrap64 (x11_1 + 1)) a0_0 a0_1) else (none)))) else (none)) = some (r1, r2) := by first | (rw [hy341]; with_reducible exact H) | (have H2_ := (Option.bind_some _ _).symm.trans H; rw [hy341]; with_reducible exact H2_) | (have H2_ := (Option.bind_some _ _).symm.trans H; with_reducible exact H2_) | with_reducible exact H | (rw [hy341]; exact H) | exact H
              have Ny341 := am hy341;clear hy341
              by_cases c67 : y341.length < 3518437208883
              ·rw [if_pos c67] at H;have LMc67 := am c67;clear c67;obtain ⟨y344, hy344⟩ : ∃ y_ : List (S60), y_ = (y341 ++ [(⟨(rdOf ByteArray.empty l1 x11_1), t325, (⟨((rd_T50 l2 x11_1).f0), ((rd_T50 l2 x11_1).f1)⟩ : S50)⟩ : S60)]) := ⟨_, rfl⟩
               replace H : ((some (x10_1.drop (x13_9 : Int).toNat : List (S60))).bind fun y347 => (if y344.length + y347.length < 3518437208883 then (r14_Model.l0 kj30 l1 l2 a3 (y344 ++ y347) (wrap64 (x11_1 + 1)) a0_0 a0_1) else (none))) = some (r1, r2) := by first | (rw [hy344]; with_reducible exact H) | (have H2_ := (Option.bind_some _ _).symm.trans H; rw [hy344]; with_reducible exact H2_) | (have H2_ := (Option.bind_some _ _).symm.trans H; with_reducible exact H2_) | with_reducible exact H | (rw [hy344]; exact H) | exact H
               have Ny344 := am hy344;clear hy344;have c68b0 := eq_true (of_decide_eq_true (by first | (with_reducible assumption) | assumption) : 0 ≤ x13_9);have c69b0 := eq_true (of_decide_eq_true (by first | (with_reducible assumption) | assumption) : x13_9 ≤ (x10_1.length : Int));obtain ⟨y347, hy347⟩ : ∃ y_ : List (S60), y_ = (x10_1.drop (x13_9 : Int).toNat) := ⟨_, rfl⟩
               replace H : (if y344.length + y347.length < 3518437208883 then (r14_Model.l0 kj30 l1 l2 a3 (y344 ++ y347) (wrap64 (x11_1 + 1)) a0_0 a0_1) else (none)) = some (r1, r2) := by first | (rw [hy347]; with_reducible exact H) | (have H2_ := (Option.bind_some _ _).symm.trans H; rw [hy347]; with_reducible exact H2_) | (have H2_ := (Option.bind_some _ _).symm.trans H; with_reducible exact H2_) | with_reducible exact H | (rw [hy347]; exact H) | exact H
               have Ny347 := am hy347;clear hy347
               by_cases c70 : y344.length + y347.length < 3518437208883
               ·rw [if_pos c70] at H;have LMc70 := am c70;clear c70;obtain ⟨y351, hy351⟩ : ∃ y_ : List (S60), y_ = (y344 ++ y347) := ⟨_, rfl⟩
                replace H : (r14_Model.l0 kj30 l1 l2 a3 y351 (wrap64 (x11_1 + 1)) a0_0 a0_1) = some (r1, r2) := by first | (rw [hy351]; with_reducible exact H) | (have H2_ := (Option.bind_some _ _).symm.trans H; rw [hy351]; with_reducible exact H2_) | (have H2_ := (Option.bind_some _ _).symm.trans H; with_reducible exact H2_) | with_reducible exact H | (rw [hy351]; exact H) | exact H
                have Ny351 := am hy351;clear hy351;have H' := am H;clear H;obtain ⟨Ao72, co72, eo72⟩ := Kd.R_slice HO_10.out;subst eo72;have q71 : (x13_9 : Int) ≤ ((x10_1.length : Int) : Int) := of_decide_eq_true (by first | (with_reducible assumption) | assumption);obtain ⟨i071, hi071, _, hsz71, _⟩ := info_parts info60;have hroom71 : x10_1.length ≤ co72 := (Kd.R_reads' HO_10.out).2.1;have hC71 : Kd.C k60 _ Ao72 x10_1.length x10_1 := (Kd.R_reads' HO_10.out).2.2;have hcut71 := cut_to (P := Try.prog) 28 60 .i64 Try.underlying28 hi071 Ao72 x10_1.length co72 x13_9 (of_decide_eq_true (by first | (with_reducible assumption) | assumption)) q71 hroom71;have hr71 := Kd.C_take (m := (x13_9 : Int).toNat) hC71 (by omega);have hy71 : y337.length = (x13_9 : Int).toNat := (by rw [Ny337.out, List.length_take]; omega);rw [← Ny337.out] at hr71;rw [← hy71] at hcut71;have HR340 := am hr71;have HC340 := am (show y337.length ≤ co72 from by omega);clear hr71 hC71 hroom71 hi071 hsz71;have KY71 := am hy71;clear hy71;have KL71 := am (show (x13_9 : Int).toNat ≤ x10_1.length from by omega);replace q71 := eq_true q71
                go_wp2_with (first | ((with_reducible refine gate_builtin (b := .append) (xs := #[.tmp 86, .tmp 89]) rfl ?_); at_builtin; refine Kd.R_append_rows k60 (w0 := w) w.heap.size rfl (.tmp 86) (.tmp 89) 28 60 (.agg #[(.string ⟨#[]⟩), (.int .u64 0), (.int .u64 0), (.int .u64 0)]) 40 rfl Try.underlying28 info60 rfl (by decide) (by omega) (.slice none 0 0) ([] : List (S60)) y337 _ _ _ (fun k_ => some k_ ≠ (.slice Ao72 x10_1.length co72 : Value).ownBlock ∧ k_ ≠ gb327) (fun _ => False) rfl rfl ?aO ?aR (fun _ _ h => h) (fun _ h => h.elim) ?aF ?aB ?aS ?aL ?_; (case aR => repeat (first | exact (by repeat (first | (with_reducible exact HR340.out) | (with_reducible refine Kd.C_alloc ?_ _) | (with_reducible refine Kd.C_drewN ?_ _) | (with_reducible refine Kd.C_drew ?_) | exact HR340.out)) | (with_reducible refine Kd.C_alloc ?_ _) | (with_reducible refine Kd.C_drewN ?_ _) | (with_reducible refine Kd.C_drew ?_))); (case aB => exact (pb HB)); (case aF => exact (fun k_ hk => ⟨Kd.fresh' (Kd.R_lt (pr HO_10.out)) k_ hk, Kd.freshB (g := gb327) (o := .cells #[.string (rdOf ByteArray.empty l1 x11_1), .int .u64 t325, .int .u64 ((rd_T50 l2 x11_1).f0), .int .u64 ((rd_T50 l2 x11_1).f1)] 60 (0, 0)) (pk BK327.out) k_ hk⟩)); (case aO => exact ((Kd.R_nil _ _ _ _ (fun k_ => some k_ ≠ (.slice Ao72 x10_1.length co72 : Value).ownBlock ∧ k_ ≠ gb327)))); (case aS => exact (below_size (pb HB))); (case aL => have := LMc66.out; omega); intro v342 w73 ho hb hg hat; rw [← Ny341.out] at ho; replace BK319 := am (blk_grown (g := gb319) (o := .cells #[.int .u64 a0_0, .int .u64 a0_1] 24 (0, 0)) (pk BK319.out) hg (by simp [Value.ownBlock])); replace BK327 := am (blk_grown (g := gb327) (o := .cells #[.string (rdOf ByteArray.empty l1 x11_1), .int .u64 t325, .int .u64 ((rd_T50 l2 x11_1).f0), .int .u64 ((rd_T50 l2 x11_1).f1)] 60 (0, 0)) (pk BK327.out) hg (by simp [Value.ownBlock])); replace HB := am (hb); replace HR340 := am ((show Kd.C k60 w73 Ao72 y337.length y337 from by rw [Ny337.out]; exact Kd.C_take (m := (x13_9 : Int).toNat) ((Kd.R_reads' (Kd.R_after (Kd.R_apart_nil (pr HO_10.out)) hg hat)).2.2) KL71.out)); replace HO_10 := am (Kd.R_after (Kd.R_apart_nil (pr HO_10.out)) hg hat); have HO343 := am (ho); clear ho hb hg hat; have hnb74 := NB327_319.out; have hnc74 := NB319_327.out; obtain ⟨hcz75_0, hcz75_1, hcz75_2, hcz75_3, hfz75_0, hfz75_1, hfz75_2, hfz75_3⟩ := g4 BK327) | ((with_reducible refine gate_builtin (b := .append) (xs := #[.tmp 91, .tmp 93]) rfl ?_); at_builtin; refine Kd.R_append k60 (w0 := w) w.heap.size rfl (.tmp 91) (.tmp 93) 28 60 (.agg #[(.string ⟨#[]⟩), (.int .u64 0), (.int .u64 0), (.int .u64 0)]) 40 rfl Try.underlying28 info60 rfl (by decide) (by omega) v342 y341 (⟨(rdOf ByteArray.empty l1 x11_1), t325, (⟨((rd_T50 l2 x11_1).f0), ((rd_T50 l2 x11_1).f1)⟩ : S50)⟩ : S60) [.string (rdOf ByteArray.empty l1 x11_1), .int .u64 t325, .int .u64 ((rd_T50 l2 x11_1).f0), .int .u64 ((rd_T50 l2 x11_1).f1)] (fun k_ => some k_ ≠ (.slice Ao72 x10_1.length co72 : Value).ownBlock ∧ k_ ≠ gb327) (fun _ => False) rfl rfl ?aP (fun _ hk => hk.elim) ?aF ?aO ?aB ?aS ?aL ?_; (case aP => exact k60_mkM _ _ _ (⟨(rdOf ByteArray.empty l1 x11_1), t325, (⟨((rd_T50 l2 x11_1).f0), ((rd_T50 l2 x11_1).f1)⟩ : S50)⟩ : S60)); (case aB => exact (pb HB)); (case aF => exact (fun k_ hk => ⟨Kd.fresh' (Kd.R_lt (pr HO_10.out)) k_ hk, Kd.freshB (g := gb327) (o := .cells #[.string (rdOf ByteArray.empty l1 x11_1), .int .u64 t325, .int .u64 ((rd_T50 l2 x11_1).f0), .int .u64 ((rd_T50 l2 x11_1).f1)] 60 (0, 0)) (pk BK327.out) k_ hk⟩)); (case aO => exact (pr HO343.out)); (case aS => exact (below_size (pb HB))); (case aL => have := LMc67.out; omega); intro v345 w76 ho hb hg hat; rw [← Ny344.out] at ho; replace BK319 := am (blk_grown (g := gb319) (o := .cells #[.int .u64 a0_0, .int .u64 a0_1] 24 (0, 0)) (pk BK319.out) hg (Kd.R_ne HO343.out BK319.out (by decide))); replace BK327 := am (blk_grown (g := gb327) (o := .cells #[.string (rdOf ByteArray.empty l1 x11_1), .int .u64 t325, .int .u64 ((rd_T50 l2 x11_1).f0), .int .u64 ((rd_T50 l2 x11_1).f1)] 60 (0, 0)) (pk BK327.out) hg (Kd.R_away HO343.out (fun _ hk => hk.2))); replace HB := am (hb); replace HR340 := am ((show Kd.C k60 w76 Ao72 y337.length y337 from by rw [Ny337.out]; exact Kd.C_take (m := (x13_9 : Int).toNat) ((Kd.R_reads' (Kd.R_after (ok := (fun k_ => k_ ≠ gb327)) (pr HO_10.out) hg hat)).2.2) KL71.out)); replace HO_10 := am (Kd.R_after (ok := (fun k_ => k_ ≠ gb327)) (pr HO_10.out) hg hat); have HO346 := am (ho); clear HO343; clear ho hb hg hat; have q77 : (x13_9 : Int) ≤ ((x10_1.length : Int) : Int) := of_decide_eq_true (by first | (with_reducible assumption) | assumption); obtain ⟨i077, hi077, _, hsz77, _⟩ := info_parts info60; have hroom77 : x10_1.length ≤ co72 := (Kd.R_reads' HO_10.out).2.1; have hC77 : Kd.C k60 _ Ao72 x10_1.length x10_1 := (Kd.R_reads' HO_10.out).2.2; have q077 : (0 : Int) ≤ (x13_9 : Int) := of_decide_eq_true (by first | (with_reducible assumption) | assumption); have hcut77 := cut_from (P := Try.prog) 28 60 .i64 Try.underlying28 hi077 4 hsz77 Ao72 x10_1.length co72 x13_9 q077 q77; have hr77 := Kd.C_drop (m := (x13_9 : Int).toNat) (c := co72) hC77 (by omega) hroom77; obtain ⟨A77, hA77⟩ : ∃ A1, A1 = (if co72 = (x13_9 : Int).toNat then Ao72 else (Ao72 : Option Addr).map (·.add ((x13_9 : Int).toNat * 4))) := ⟨_, rfl⟩; obtain ⟨c77, hc77⟩ : ∃ c1, c1 = co72 - (x13_9 : Int).toNat := ⟨_, rfl⟩; have hy77 : y347.length = x10_1.length - (x13_9 : Int).toNat := (by rw [Ny347.out, List.length_drop] <;> omega); rw [show (x10_1).drop (x13_9 : Int).toNat = y347 from Ny347.out.symm] at hr77; replace hr77 : Kd.C k60 _ A77 y347.length y347 := (by rw [hA77]; exact hr77); rw [← hy77, ← hA77, ← hc77] at hcut77; have HR350 := am hr77; have HC350 := am (show y347.length ≤ c77 from by rw [hy77, hc77]; exact Nat.sub_le_sub_right hroom77 _); clear hr77 hC77 hroom77 hi077 hsz77 hc77; have KY77 := am hy77; have KA77 := am hA77; clear hy77 hA77; have KL77 := am (show (x13_9 : Int).toNat ≤ x10_1.length from by omega); replace q77 := eq_true q77) | ((with_reducible refine gate_builtin (b := .append) (xs := #[.tmp 95, .tmp 98]) rfl ?_); at_builtin; refine Kd.R_append_rows k60 (w0 := w) w.heap.size rfl (.tmp 95) (.tmp 98) 28 60 (.agg #[(.string ⟨#[]⟩), (.int .u64 0), (.int .u64 0), (.int .u64 0)]) 40 rfl Try.underlying28 info60 rfl (by decide) (by omega) v345 y344 y347 _ _ _ (fun k_ => some k_ ≠ (.slice Ao72 x10_1.length co72 : Value).ownBlock ∧ k_ ≠ gb327) (fun _ => False) rfl rfl ?aO ?aR (fun _ _ h => h) (fun _ h => h.elim) ?aF ?aB ?aS ?aL ?_; (case aR => repeat (first | exact (by repeat (first | (with_reducible exact HR350.out) | (with_reducible refine Kd.C_alloc ?_ _) | (with_reducible refine Kd.C_drewN ?_ _) | (with_reducible refine Kd.C_drew ?_) | exact HR350.out)) | (with_reducible refine Kd.C_alloc ?_ _) | (with_reducible refine Kd.C_drewN ?_ _) | (with_reducible refine Kd.C_drew ?_))); (case aB => exact (pb HB)); (case aF => exact (fun k_ hk => ⟨Kd.fresh' (Kd.R_lt (pr HO_10.out)) k_ hk, Kd.freshB (g := gb327) (o := .cells #[.string (rdOf ByteArray.empty l1 x11_1), .int .u64 t325, .int .u64 ((rd_T50 l2 x11_1).f0), .int .u64 ((rd_T50 l2 x11_1).f1)] 60 (0, 0)) (pk BK327.out) k_ hk⟩)); (case aO => exact (pr HO346.out)); (case aS => exact (below_size (pb HB))); (case aL => have := LMc70.out; omega); intro v352 w78 ho hb hg hat; rw [← Ny351.out] at ho; replace BK319 := am (blk_grown (g := gb319) (o := .cells #[.int .u64 a0_0, .int .u64 a0_1] 24 (0, 0)) (pk BK319.out) hg (Kd.R_ne HO346.out BK319.out (by decide))); replace BK327 := am (blk_grown (g := gb327) (o := .cells #[.string (rdOf ByteArray.empty l1 x11_1), .int .u64 t325, .int .u64 ((rd_T50 l2 x11_1).f0), .int .u64 ((rd_T50 l2 x11_1).f1)] 60 (0, 0)) (pk BK327.out) hg (Kd.R_away HO346.out (fun _ hk => hk.2))); replace HB := am (hb); replace HR340 := am ((show Kd.C k60 w78 Ao72 y337.length y337 from by rw [Ny337.out]; exact Kd.C_take (m := (x13_9 : Int).toNat) ((Kd.R_reads' (Kd.R_after (ok := (fun k_ => k_ ≠ gb327)) (pr HO_10.out) hg hat)).2.2) KL71.out)); replace HR350 := am ((show Kd.C k60 w78 A77 y347.length y347 from by rw [Ny347.out, KA77.out]; exact Kd.C_drop (m := (x13_9 : Int).toNat) (c := co72) ((Kd.R_reads' (Kd.R_after (ok := (fun k_ => k_ ≠ gb327)) (pr HO_10.out) hg hat)).2.2) KL77.out ((Kd.R_reads' (Kd.R_after (ok := (fun k_ => k_ ≠ gb327)) (pr HO_10.out) hg hat)).2.1))); replace HO_10 := am (Kd.R_after (ok := (fun k_ => k_ ≠ gb327)) (pr HO_10.out) hg hat); have HO353 := am (ho); clear HO346; clear ho hb hg hat))
                go_roundg kj30
                case measure => have := HK1.out; have := HJ9.out; have := HJ30.out; omega
                case rel => exact ⟨(y351), (wrap64 (x11_1 + 1)), (by first | rfl | (simp; done) | (simp [*]; done)), H', ⟨by have := HK1.out; have := HJ9.out; have := HJ30.out; omega⟩, ⟨by refine pr ?_; exact Kd.R_mono HO353.out (fun _ hk => trivial)⟩, ⟨pk BK319.out⟩, ⟨pb HB⟩⟩
               ·rw [if_neg c70] at H;exact absurd H (by simp)
              ·rw [if_neg c67] at H;exact absurd H (by simp)
             ·rw [if_neg c66] at H;exact absurd H (by simp)
            ·rw [if_neg c65] at H;exact absurd H (by simp)
           ·rw [if_neg c64] at H;exact absurd H (by simp)
     ·rw [if_neg c9] at H;exact absurd H (by simp)
    ·rw [if_neg c7] at H;exact absurd H (by simp)
   ·rw [if_neg c6] at H;have c6b0 : decide (x11_1 < (l1.length : Int)) = false := decide_eq_false c6;clear c6
    by_cases c79 : (x10_1.length : Int) > a3
    ·rw [if_pos c79] at H;have c79b0 : decide (a3 < (x10_1.length : Int)) = true := decide_eq_true c79;clear c79
     by_cases c80 : 0 ≤ a3
     ·rw [if_pos c80] at H;have c80b0 := eq_true c80;have c80b1 : decide (0 ≤ a3) = true := decide_eq_true c80;clear c80
      by_cases c81 : a3 ≤ (x10_1.length : Int)
      ·rw [if_pos c81] at H;have c81b0 := eq_true c81;have c81b1 : decide (a3 ≤ (x10_1.length : Int)) = true := decide_eq_true c81;clear c81;obtain ⟨y320, hy320⟩ : ∃ y_ : List (S60), y_ = (x10_1.take (a3 : Int).toNat) := ⟨_, rfl⟩
       replace H : (some (y320, true)) = some (r1, r2) := by first | (rw [hy320]; with_reducible exact H) | (have H2_ := (Option.bind_some _ _).symm.trans H; rw [hy320]; with_reducible exact H2_) | (have H2_ := (Option.bind_some _ _).symm.trans H; with_reducible exact H2_) | with_reducible exact H | (rw [hy320]; exact H) | exact H
       have Ny320 := am hy320;clear hy320
       simp only [Option.some.injEq, Prod.mk.injEq] at H
       obtain ⟨rfl, rfl⟩ := H;obtain ⟨Ao82, co82, eo82⟩ := Kd.R_slice HO_10.out;subst eo82;have q83 : (a3 : Int) ≤ ((x10_1.length : Int) : Int) := of_decide_eq_true (by first | (with_reducible assumption) | assumption);obtain ⟨i083, hi083, _, hsz83, _⟩ := info_parts info60;have hcut83 := cut_to (P := Try.prog) 28 60 .i64 Try.underlying28 hi083 Ao82 x10_1.length co82 a3 (of_decide_eq_true (by first | (with_reducible assumption) | assumption)) q83 (Kd.R_reads' HO_10.out).2.1;have hr83 := Kd.R_take (m := (a3 : Int).toNat) HO_10.out (by omega);have hy83 : y320.length = (a3 : Int).toNat := (by rw [Ny320.out, List.length_take]; omega);rw [← Ny320.out] at hr83;rw [← hy83] at hr83 hcut83;clear hy83 hi083 hsz83 HO_10;have HO322 := am hr83;clear hr83;replace q83 := eq_true q83
       go_wp2
       go_ret2
       exact ⟨_, by first | rfl | (simp [errW_none, errW_some] <;> rfl) | (simp [*, errW_none, errW_some] <;> rfl), by refine pr ?_; exact HO322.out, pb HB⟩
      ·rw [if_neg c81] at H;exact absurd H (by simp)
     ·rw [if_neg c80] at H;exact absurd H (by simp)
    ·rw [if_neg c79] at H;have c79b0 : decide (a3 < (x10_1.length : Int)) = false := decide_eq_false c79;clear c79
     simp only [Option.some.injEq, Prod.mk.injEq] at H
     obtain ⟨rfl, rfl⟩ := H;obtain ⟨Ao84, co84, eo84⟩ := Kd.R_slice HO_10.out;subst eo84
     go_wp2
     go_ret2
     exact ⟨_, by first | rfl | (simp [errW_none, errW_some] <;> rfl) | (simp [*, errW_none, errW_some] <;> rfl), by refine pr ?_; exact HO_10.out, pb HB⟩
end Go.Proofs.Ytmfffbafldbihaa.H
