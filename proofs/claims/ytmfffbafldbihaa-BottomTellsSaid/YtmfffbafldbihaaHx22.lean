import Derived.Test.YtmfffbafldbihaaHx0
import Derived.Test.YtmfffbafldbihaaHx21
namespace Go.Proofs.Ytmfffbafldbihaa.H
open Go.RowKit Go.Proofs.YtmfffbafldbihaaW.PrintWords Go.Proofs.YtmfffbafldbihaaW.PrintLast Go.Proofs.YtmfffbafldbihaaW.PrintMore Go.Proofs.YtmfffbafldbihaaW.Sq
attribute [local go_sem] max2_int min2_int max_two min_two max_three min_three max_four min_four
set_option linter.unusedVariables false
set_option linter.unusedSimpArgs false

mutual
def r14_Joined.l0 : Nat → List (S60) → List (S60) → Int → List ByteArray → List (S50) → Int → Int → Int → Option ((List (S60)) × Bool)
 | 0, _, _, _, _, _, _, _, _ => none
 | k + 1, x1, x2, x3, x10, x11, x12, x355000, x355001 => if x12 < (x1.length : Int) then (if 0 ≤ x12 then ((some (([(rd_T60 x1 x12).f0] : List ByteArray) : List ByteArray)).bind fun y356 => (if x10.length + y356.length < 8796093022208 then ((some (([(⟨(rd_T60 x1 x12).f2.f0, (rd_T60 x1 x12).f2.f1⟩ : S50)] : List (S50)) : List (S50))).bind fun y363 => (if x11.length + y363.length < 8796093022208 then (r14_Joined.l0 k x1 x2 x3 (x10 ++ y356) (x11 ++ y363) (wrap64 (x12 + 1)) x355000 x355001) else (none))) else (none))) else (none)) else (r14_Joined.l1 k x2 x3 x10 x11 0 x355000 x355001)
def r14_Joined.l1 : Nat → List (S60) → Int → List ByteArray → List (S50) → Int → Int → Int → Option ((List (S60)) × Bool)
 | 0, _, _, _, _, _, _, _ => none
 | k + 1, x2, x3, x10, x11, x13, x355000, x355001 => if x13 < (x2.length : Int) then (if 0 ≤ x13 then ((some (([(rd_T60 x2 x13).f0] : List ByteArray) : List ByteArray)).bind fun y370 => (if x10.length + y370.length < 8796093022208 then ((some (([(⟨(rd_T60 x2 x13).f2.f0, (rd_T60 x2 x13).f2.f1⟩ : S50)] : List (S50)) : List (S50))).bind fun y377 => (if x11.length + y377.length < 8796093022208 then (r14_Joined.l1 k x2 x3 (x10 ++ y370) (x11 ++ y377) (wrap64 (x13 + 1)) x355000 x355001) else (none))) else (none))) else (none)) else ((r14_Model.f k x355000 x355001 x10 x11 x3).bind fun bt383 => (some (bt383.1, bt383.2)))
end
def r14_Joined.f (k : Nat) (a0_0 : Int) (a0_1 : Int) (l1 : List (S60)) (l2 : List (S60)) (a3 : Int) : Option ((List (S60)) × Bool) := r14_Joined.l0 k l1 l2 a3 ([] : List ByteArray) ([] : List (S50)) 0 a0_0 a0_1
theorem r14_Joined.mono_l : ∀ k, (∀ y0 y1 y2 y3 y4 y5 y6 y7, LeO (r14_Joined.l0 k y0 y1 y2 y3 y4 y5 y6 y7) (r14_Joined.l0 (k + 1) y0 y1 y2 y3 y4 y5 y6 y7)) ∧ (∀ y0 y1 y2 y3 y4 y5 y6, LeO (r14_Joined.l1 k y0 y1 y2 y3 y4 y5 y6) (r14_Joined.l1 (k + 1) y0 y1 y2 y3 y4 y5 y6))
 | 0 => ⟨fun _ _ _ _ _ _ _ _ r h => by simp [r14_Joined.l0] at h, fun _ _ _ _ _ _ _ r h => by simp [r14_Joined.l1] at h⟩
 | k + 1 => by
  obtain ⟨ih0, ih1⟩ := r14_Joined.mono_l k
  refine ⟨?_, ?_⟩
  ·intro y0 y1 y2 y3 y4 y5 y6 y7
   unfold r14_Joined.l0
   repeat' first
   | (with_reducible exact ih0 _ _ _ _ _ _ _ _)
   | (with_reducible exact ih1 _ _ _ _ _ _ _)
   | (with_reducible exact r14_Model.mono _ _ _ _ _ _)
   | (with_reducible exact LeO.refl _)
   | (with_reducible exact LeO.none _)
   | (with_reducible refine LeO.ite ?_ ?_)
   | (with_reducible refine LeO.bind ?_ (fun _ => ?_))
  ·intro y0 y1 y2 y3 y4 y5 y6
   unfold r14_Joined.l1
   repeat' first
   | (with_reducible exact ih0 _ _ _ _ _ _ _ _)
   | (with_reducible exact ih1 _ _ _ _ _ _ _)
   | (with_reducible exact r14_Model.mono _ _ _ _ _ _)
   | (with_reducible exact LeO.refl _)
   | (with_reducible exact LeO.none _)
   | (with_reducible refine LeO.ite ?_ ?_)
   | (with_reducible refine LeO.bind ?_ (fun _ => ?_))
theorem r14_Joined.mono : ∀ a0 a1 a2 a3 a4 k, LeO (r14_Joined.f k a0 a1 a2 a3 a4) (r14_Joined.f (k + 1) a0 a1 a2 a3 a4) := by
 intro a0 a1 a2 a3 a4 k
 obtain ⟨ih0, ih1⟩ := r14_Joined.mono_l k
 unfold r14_Joined.f
 repeat' first
   | (with_reducible exact ih0 _ _ _ _ _ _ _ _)
   | (with_reducible exact ih1 _ _ _ _ _ _ _)
   | (with_reducible exact r14_Model.mono _ _ _ _ _ _)
   | (with_reducible exact LeO.refl _)
   | (with_reducible exact LeO.none _)
   | (with_reducible refine LeO.ite ?_ ?_)
   | (with_reducible refine LeO.bind ?_ (fun _ => ?_))
def r14_Joined.T6 : Bool × List (List Nat × List Nat) := (true, [([], []), ([], []), ([], []), ([1, 2], [1, 2]), ([3], [3]), ([4], [4]), ([5], [5]), ([0, 6], [0, 6]), ([], []), ([], []), ([], []), ([9, 10], [9, 10]), ([11], [11]), ([12], [12]), ([13], [13]), ([8, 14, 7], [8, 14]), ([7, 15, 0, 1, 2, 3, 4, 5, 6, 7], [0, 7]), ([15, 16, 0, 1, 2, 3, 4, 5, 6, 7, 8, 9, 10, 11, 12, 13, 14, 15, 16], [8, 15])])
def r14_Joined.B6 : List Nat := [0, 0, 0, 6, 14, 30, 62, 127, 0, 0, 0, 1536, 3584, 7680, 15872, 32767, 65535, 131071]
theorem r14_Joined.tab6 : rtab .any (opsOf Try.f15 6) = r14_Joined.T6 := by kernel_rfl
theorem r14_Joined.bits6 : waitsOk r14_Joined.T6.2 r14_Joined.B6 = true := by kernel_rfl
def r14_Joined.T10 : Bool × List (List Nat × List Nat) := (true, [([], []), ([], []), ([], []), ([1, 2], [1, 2]), ([3], [3]), ([4], [4]), ([5], [5]), ([0, 6], [0, 6]), ([], []), ([], []), ([], []), ([9, 10], [9, 10]), ([11], [11]), ([12], [12]), ([13], [13]), ([8, 14, 7], [8, 14]), ([7, 15, 0, 1, 2, 3, 4, 5, 6, 7], [0, 7]), ([15, 16, 0, 1, 2, 3, 4, 5, 6, 7, 8, 9, 10, 11, 12, 13, 14, 15, 16], [8, 15])])
def r14_Joined.B10 : List Nat := [0, 0, 0, 6, 14, 30, 62, 127, 0, 0, 0, 1536, 3584, 7680, 15872, 32767, 65535, 131071]
theorem r14_Joined.tab10 : rtab .any (opsOf Try.f15 10) = r14_Joined.T10 := by kernel_rfl
theorem r14_Joined.bits10 : waitsOk r14_Joined.T10.2 r14_Joined.B10 = true := by kernel_rfl
set_option maxHeartbeats 8000000 in
set_option maxRecDepth 100000 in
theorem r14_Joined.calls (k : Nat) (a0_0 : Int) (a0_1 : Int) (A1 : Option Addr) (c1 : Nat) (l1 : List (S60)) (A2 : Option Addr) (c2 : Nat) (l2 : List (S60)) (a3 : Int) (r1 : List (S60)) (r2 : Bool) (w : World) (hr1 : Kd.C k60 w A1 l1.length l1) (hc1 : l1.length ≤ c1) (hr2 : Kd.C k60 w A2 l2.length l2) (hc2 : l2.length ≤ c2) (h : r14_Joined.f k a0_0 a0_1 l1 l2 a3 = some (r1, r2)) :
  Calls Try.prog 15 #[.agg #[.int .u64 a0_0, .int .u64 a0_1], .slice A1 l1.length c1, .slice A2 l2.length c2, .int .i64 a3] w fun e w' => ∃ v0_ : Value, e = .returned (.tuple #[v0_, .bool r2]) ∧ Kd.R k60 60 w' w.heap.size (fun _ => True) v0_ r1 ∧ Below w.heap.size w w' := by
 have hu24 := Try.underlying24;have hu50 := Try.underlying50;have HR1 := am hr1;have HC1 := am hc1;clear hr1 hc1;have HR2 := am hr2;have HC2 := am hc2;clear hr2 hc2;have HB := am (Below.refl w.heap.size w);have H : (r14_Joined.l0 k l1 l2 a3 ([] : List ByteArray) ([] : List (S50)) 0 a0_0 a0_1) = some (r1, r2) := h;clear h;have H' := am H;clear H
 go_enter Try.func15, Try.ntmps15
 go_wp2_with (first | ((with_reducible refine gate_dst (N := 4) rfl ?_); refine be 4 #[.int .u64 a0_0, .int .u64 a0_1] 24 ?_; intro gb354 hg w5 hbox hb; have BK354 := am (hbox); have GW354 := am ((pg hg HB : w.heap.size ≤ gb354)); have GE354 := am ((pg hg HB : w.heap.size ≤ gb354)); replace HB := am (below_step (pb HB) hb); clear hb hbox hg))
 go_loopg [10, 11, 12] k (fun kq v10 v11 v12 w' => ∃ (x10_1 : List ByteArray) (x11_1 : List (S50)) (x12_1 : Int), v12 = .int .i64 x12_1 ∧ Aside0 (r14_Joined.l0 kq l1 l2 a3 x10_1 x11_1 x12_1 a0_0 a0_1 = some (r1, r2)) ∧ Aside0 (kq ≤ k) ∧ Aside0 (Kd.R Kd.string 9 w' w.heap.size (fun _ => True) v10 x10_1) ∧ Aside0 (Kd.R k50 50 w' w.heap.size (fun _ => True) v11 x11_1) ∧ Aside0 (w'.heap[gb354]? = some (.cells #[.int .u64 a0_0, .int .u64 a0_1] 24 (0, 0))) ∧ Aside0 (Below w.heap.size w w'))
 case atStart => exact ⟨(([] : List ByteArray)), (([] : List (S50))), (0), (by first | rfl | (simp; done) | (simp [*]; done)), H', ⟨Nat.le_refl _⟩, ⟨by first | exact Kd.R_nil _ _ _ _ _ | exact Kd.N_nil _ _ _ _ _ | exact Kd.V_nil _ _ _ _ _ | exact Kd.Q_nil _ _ _ _ _ | exact Kd.S_nil _ _ _ _ _⟩, ⟨by first | exact Kd.R_nil _ _ _ _ _ | exact Kd.N_nil _ _ _ _ _ | exact Kd.V_nil _ _ _ _ _ | exact Kd.Q_nil _ _ _ _ _ | exact Kd.S_nil _ _ _ _ _⟩, ⟨pk BK354.out⟩, ⟨pb HB⟩⟩
 case round =>
  clear H';(try clear c1);(try clear c2);(try clear p2);obtain ⟨x10_1, x11_1, x12_1, rfl, HA, HK1, HO_10, HO_11, BK354, HB⟩ := hrel
  cases gk with
  | zero => exact absurd HA.out (by simp [r14_Joined.l0])
  | succ k1 =>
   have H := HA.out;clear HA
   simp only [r14_Joined.l0] at H
   by_cases c6 : x12_1 < (l1.length : Int)
   ·rw [if_pos c6] at H;have c6b0 : decide (x12_1 < (l1.length : Int)) = true := decide_eq_true c6;clear c6
    by_cases c7 : 0 ≤ x12_1
    ·rw [if_pos c7] at H;have c7b0 : decide (0 ≤ x12_1) = true := decide_eq_true c7;clear c7;obtain ⟨y356, hy356⟩ : ∃ y_ : List ByteArray, y_ = (([(rd_T60 l1 x12_1).f0] : List ByteArray)) := ⟨_, rfl⟩
     replace H : (if x10_1.length + y356.length < 8796093022208 then ((some (([(⟨(rd_T60 l1 x12_1).f2.f0, (rd_T60 l1 x12_1).f2.f1⟩ : S50)] : List (S50)) : List (S50))).bind fun y363 => (if x11_1.length + y363.length < 8796093022208 then (r14_Joined.l0 k1 l1 l2 a3 (x10_1 ++ y356) (x11_1 ++ y363) (wrap64 (x12_1 + 1)) a0_0 a0_1) else (none))) else (none)) = some (r1, r2) := by first | (rw [hy356]; with_reducible exact H) | (have H2_ := (Option.bind_some _ _).symm.trans H; rw [hy356]; with_reducible exact H2_) | (have H2_ := (Option.bind_some _ _).symm.trans H; with_reducible exact H2_) | with_reducible exact H | (rw [hy356]; exact H) | exact H
     have Ny356 := am hy356;clear hy356
     by_cases c8 : x10_1.length + y356.length < 8796093022208
     ·rw [if_pos c8] at H;have LMc8 := am c8;clear c8;obtain ⟨y359, hy359⟩ : ∃ y_ : List ByteArray, y_ = (x10_1 ++ y356) := ⟨_, rfl⟩
      replace H : ((some (([(⟨(rd_T60 l1 x12_1).f2.f0, (rd_T60 l1 x12_1).f2.f1⟩ : S50)] : List (S50)) : List (S50))).bind fun y363 => (if x11_1.length + y363.length < 8796093022208 then (r14_Joined.l0 k1 l1 l2 a3 y359 (x11_1 ++ y363) (wrap64 (x12_1 + 1)) a0_0 a0_1) else (none))) = some (r1, r2) := by first | (rw [hy359]; with_reducible exact H) | (have H2_ := (Option.bind_some _ _).symm.trans H; rw [hy359]; with_reducible exact H2_) | (have H2_ := (Option.bind_some _ _).symm.trans H; with_reducible exact H2_) | with_reducible exact H | (rw [hy359]; exact H) | exact H
      have Ny359 := am hy359;clear hy359;obtain ⟨y363, hy363⟩ : ∃ y_ : List (S50), y_ = (([(⟨(rd_T60 l1 x12_1).f2.f0, (rd_T60 l1 x12_1).f2.f1⟩ : S50)] : List (S50))) := ⟨_, rfl⟩
      replace H : (if x11_1.length + y363.length < 8796093022208 then (r14_Joined.l0 k1 l1 l2 a3 y359 (x11_1 ++ y363) (wrap64 (x12_1 + 1)) a0_0 a0_1) else (none)) = some (r1, r2) := by first | (rw [hy363]; with_reducible exact H) | (have H2_ := (Option.bind_some _ _).symm.trans H; rw [hy363]; with_reducible exact H2_) | (have H2_ := (Option.bind_some _ _).symm.trans H; with_reducible exact H2_) | with_reducible exact H | (rw [hy363]; exact H) | exact H
      have Ny363 := am hy363;clear hy363
      by_cases c9 : x11_1.length + y363.length < 8796093022208
      ·rw [if_pos c9] at H;have LMc9 := am c9;clear c9;obtain ⟨y366, hy366⟩ : ∃ y_ : List (S50), y_ = (x11_1 ++ y363) := ⟨_, rfl⟩
       replace H : (r14_Joined.l0 k1 l1 l2 a3 y359 y366 (wrap64 (x12_1 + 1)) a0_0 a0_1) = some (r1, r2) := by first | (rw [hy366]; with_reducible exact H) | (have H2_ := (Option.bind_some _ _).symm.trans H; rw [hy366]; with_reducible exact H2_) | (have H2_ := (Option.bind_some _ _).symm.trans H; with_reducible exact H2_) | with_reducible exact H | (rw [hy366]; exact H) | exact H
       have Ny366 := am hy366;clear hy366;have H' := am H;clear H;obtain ⟨Ao10, co10, eo10⟩ := Kd.R_slice HO_10.out;subst eo10;obtain ⟨Ao11, co11, eo11⟩ := Kd.R_slice HO_11.out;subst eo11
       try go_wp2
       replace HO_10 := am (Kd.R_drew HO_10.out);replace HO_11 := am (Kd.R_drew HO_11.out);replace BK354 := am (blk_drew BK354.out);replace HB := am (below_drew1 HB.out);have p355 : 0 ≤ (x12_1 : Int) := of_decide_eq_true (by first | (with_reducible assumption) | assumption);have q355 : x12_1 < (l1.length : Int) := of_decide_eq_true (by first | (with_reducible assumption) | assumption);obtain ⟨ad355, e355, hx355_0, hx355_1, hx355_2, hx355_3⟩ := at_T60 HR1.out x12_1 p355 q355;have hw355_3 := hx355_3;have hw355_2 := hx355_2;have hw355_1 := hx355_1;have hw355_0 := hx355_0;cases e355;replace hx355_0 := (HB.out.cell (World.block_lt_of_cell? w _ hx355_0)).trans hx355_0;replace hx355_1 := (HB.out.cell (World.block_lt_of_cell? w _ hx355_1)).trans hx355_1;replace hx355_2 := (HB.out.cell (World.block_lt_of_cell? w _ hx355_2)).trans hx355_2;replace hx355_3 := (HB.out.cell (World.block_lt_of_cell? w _ hx355_3)).trans hx355_3;replace p355 := eq_true p355;replace q355 := eq_true q355;have p362 : 0 ≤ (x12_1 : Int) := of_decide_eq_true (by first | (with_reducible assumption) | assumption);have q362 : x12_1 < (l1.length : Int) := of_decide_eq_true (by first | (with_reducible assumption) | assumption);obtain ⟨ad362, e362, hx362_0, hx362_1, hx362_2, hx362_3⟩ := at_T60 HR1.out x12_1 p362 q362;have hw362_3 := hx362_3;have hw362_2 := hx362_2;have hw362_1 := hx362_1;have hw362_0 := hx362_0;obtain rfl : ad355 = ad362 := (by injection e362);replace hx362_0 := (HB.out.cell (World.block_lt_of_cell? w _ hx362_0)).trans hx362_0;replace hx362_1 := (HB.out.cell (World.block_lt_of_cell? w _ hx362_1)).trans hx362_1;replace hx362_2 := (HB.out.cell (World.block_lt_of_cell? w _ hx362_2)).trans hx362_2;replace hx362_3 := (HB.out.cell (World.block_lt_of_cell? w _ hx362_3)).trans hx362_3;replace p362 := eq_true p362;replace q362 := eq_true q362
       refine start_ (n := 18) (S := fun w' => w'.cell? (ad355.add ((x12_1).toNat * 4)) = some (.string ((rd_T60 l1 x12_1).f0)) ∧ w'.cell? ⟨(ad355.add ((x12_1).toNat * 4)).block, (ad355.add ((x12_1).toNat * 4)).off + 1, none⟩ = some (.int .u64 ((rd_T60 l1 x12_1).f1)) ∧ w'.cell? ⟨(ad355.add ((x12_1).toNat * 4)).block, (ad355.add ((x12_1).toNat * 4)).off + 2, none⟩ = some (.int .u64 ((rd_T60 l1 x12_1).f2.f0)) ∧ w'.cell? ⟨(ad355.add ((x12_1).toNat * 4)).block, (ad355.add ((x12_1).toNat * 4)).off + 3, none⟩ = some (.int .u64 ((rd_T60 l1 x12_1).f2.f1)) ∧ w'.cell? (ad355.add ((x12_1).toNat * 4)) = some (.string ((rd_T60 l1 x12_1).f0)) ∧ w'.cell? ⟨(ad355.add ((x12_1).toNat * 4)).block, (ad355.add ((x12_1).toNat * 4)).off + 1, none⟩ = some (.int .u64 ((rd_T60 l1 x12_1).f1)) ∧ w'.cell? ⟨(ad355.add ((x12_1).toNat * 4)).block, (ad355.add ((x12_1).toNat * 4)).off + 2, none⟩ = some (.int .u64 ((rd_T60 l1 x12_1).f2.f0)) ∧ w'.cell? ⟨(ad355.add ((x12_1).toNat * 4)).block, (ad355.add ((x12_1).toNat * 4)).off + 3, none⟩ = some (.int .u64 ((rd_T60 l1 x12_1).f2.f1))) (ds := []) #[false, false, false, false, false, false, false, false, false, false, false, false, false, false, false, false, false, false] (by kernel_rfl) rfl rfl ⟨((HB.out.cell (World.block_lt_of_cell? w _ hw355_0)).trans hw355_0), ((HB.out.cell (World.block_lt_of_cell? w _ hw355_1)).trans hw355_1), ((HB.out.cell (World.block_lt_of_cell? w _ hw355_2)).trans hw355_2), ((HB.out.cell (World.block_lt_of_cell? w _ hw355_3)).trans hw355_3), ((HB.out.cell (World.block_lt_of_cell? w _ hw362_0)).trans hw362_0), ((HB.out.cell (World.block_lt_of_cell? w _ hw362_1)).trans hw362_1), ((HB.out.cell (World.block_lt_of_cell? w _ hw362_2)).trans hw362_2), ((HB.out.cell (World.block_lt_of_cell? w _ hw362_3)).trans hw362_3)⟩ (fun hHeld => ?_); refine with_tabW r14_Joined.tab6 r14_Joined.bits6 (fun HT_ HW_ => ?_)
       generalize wr.drew = w12 at HO_10 HO_11 BK354 HB hx355_0 hx355_1 hx355_2 hx355_3 hx362_0 hx362_1 hx362_2 hx362_3 hHeld ⊢
       refine pu 0 ?_
       refine pu 1 ?_
       refine pu 2 ?_
       refine pu 3 ?_
       refine pu 4 ?_
       refine pu 8 ?_
       refine pu 9 ?_
       refine pu 10 ?_
       refine pu 11 ?_
       refine pu 12 ?_
       refine ta 5 hHeld ?_
       refine ta 13 hHeld ?_
       refine join_ (σ := Value × Value × Value) 3 #[true, true, true, true, true, true, true, true, true, true, true, true, true, true, true, false, false, false] (fun s_ => [(26, s_.1), (27, s_.2.1), (34, s_.2.2)]) (fun s_ w' => (w'.cell? (ad355.add ((x12_1).toNat * 4)) = some (.string ((rd_T60 l1 x12_1).f0)) ∧ w'.cell? ⟨(ad355.add ((x12_1).toNat * 4)).block, (ad355.add ((x12_1).toNat * 4)).off + 1, none⟩ = some (.int .u64 ((rd_T60 l1 x12_1).f1)) ∧ w'.cell? ⟨(ad355.add ((x12_1).toNat * 4)).block, (ad355.add ((x12_1).toNat * 4)).off + 2, none⟩ = some (.int .u64 ((rd_T60 l1 x12_1).f2.f0)) ∧ w'.cell? ⟨(ad355.add ((x12_1).toNat * 4)).block, (ad355.add ((x12_1).toNat * 4)).off + 3, none⟩ = some (.int .u64 ((rd_T60 l1 x12_1).f2.f1)) ∧ w'.cell? (ad355.add ((x12_1).toNat * 4)) = some (.string ((rd_T60 l1 x12_1).f0)) ∧ w'.cell? ⟨(ad355.add ((x12_1).toNat * 4)).block, (ad355.add ((x12_1).toNat * 4)).off + 1, none⟩ = some (.int .u64 ((rd_T60 l1 x12_1).f1)) ∧ w'.cell? ⟨(ad355.add ((x12_1).toNat * 4)).block, (ad355.add ((x12_1).toNat * 4)).off + 2, none⟩ = some (.int .u64 ((rd_T60 l1 x12_1).f2.f0)) ∧ w'.cell? ⟨(ad355.add ((x12_1).toNat * 4)).block, (ad355.add ((x12_1).toNat * 4)).off + 3, none⟩ = some (.int .u64 ((rd_T60 l1 x12_1).f2.f1))) ∧ (Kd.R Kd.string 9 w' w.heap.size (fun k_ => some k_ ≠ (s_.2.1 : Value).ownBlock) s_.1 y356) ∧ (Kd.R Kd.string 9 w' w.heap.size (fun k_ => some k_ ≠ (s_.1 : Value).ownBlock) s_.2.1 y359) ∧ (Kd.R k50 50 w' w.heap.size (fun k_ => some k_ ≠ (.slice Ao11 x11_1.length co11 : Value).ownBlock) s_.2.2 y363) ∧ (Kd.R k50 50 w' w.heap.size (fun k_ => some k_ ≠ (s_.2.2 : Value).ownBlock) (.slice Ao11 x11_1.length co11) x11_1) ∧ (w'.heap[gb354]? = some (.cells #[.int .u64 a0_0, .int .u64 a0_1] 24 (0, 0))) ∧ (Below w.heap.size w w')) ?_ ?_
       rotate_left
       ·intro hCont
        refine two_ (i := 6) (j := 14) (Ni := some 26) (Nj := some 34) #[true, true, true, true, true, true, true, false, true, true, true, true, true, true, false, false, false, false] #[true, true, true, true, true, true, false, false, true, true, true, true, true, true, true, false, false, false] rfl rfl rfl rfl (two_of HT_.out (by kernel_rfl)) (by decide) (by decide) (fun K hK => ?_) (fun K hK => ?_)
        ·skip
         refine Kd.R_lit_step Kd.string _ 9 ?hg (N := 26) ?hd (xs := ([(rd_T60 l1 x12_1).f0] : List ByteArray)) (inner := [.string ((rd_T60 l1 x12_1).f0)]) (ok := fun _ => True) (okp := fun _ => True) ?hr ?hp (fun _ hk => hk) trivial (Below.refl _ _) (Nat.le_refl _) (by simp) ?_; (case hd => rfl); (case hg => rfl); (case hr => first | (go_simp; done) | (go_simp; rfl)); (case hp => exact (Reps.one (show Kd.M Kd.string _ _ _ ((rd_T60 l1 x12_1).f0) [.string ((rd_T60 l1 x12_1).f0)] from rfl) (Reps.none _ _)))
         intro v357 w13 ho14 hb hg_ hnew_
         clear hg_ hnew_
         (first | rw [← Ny356.out] at ho14 | (simp only [Int.reduceToNat] at ho14; rw [← Ny356.out] at ho14))
         have n0_ := am (Kd.R_elder' (pr HO_10.out) (Kd.R_base ho14) hb);have n1_ := am (Kd.R_below (pr HO_11.out) hb);have n2_ := am (Kd.R_lower (Kd.R_new' ho14 (Kd.R_lt (pr HO_10.out))) (below_size (pb HB)));have n3_ := am (blk_below (pk BK354.out) hb);have n4_ := am (below_step (pb HB) hb);clear HO_10 HO_11 BK354 HB;have HO_10 := n0_;have HO_11 := n1_;have HO358 := n2_;have BK354 := n3_;have HB := n4_;clear n0_ n1_ n2_ n3_ n4_ hb ho14;obtain ⟨Ao16, co16, eo16⟩ := Kd.R_slice HO358.out
         (first | subst eo16 | (injection eo16 with f1_ f2_ f3_; have f4_ := f1_.symm; have f5_ := f3_.symm; clear f1_ f2_ f3_; subst f4_; subst f5_))
         refine hK.out _ _ ⟨((HB.out.cell (World.block_lt_of_cell? w _ hw355_0)).trans hw355_0), ((HB.out.cell (World.block_lt_of_cell? w _ hw355_1)).trans hw355_1), ((HB.out.cell (World.block_lt_of_cell? w _ hw355_2)).trans hw355_2), ((HB.out.cell (World.block_lt_of_cell? w _ hw355_3)).trans hw355_3), ((HB.out.cell (World.block_lt_of_cell? w _ hw362_0)).trans hw362_0), ((HB.out.cell (World.block_lt_of_cell? w _ hw362_1)).trans hw362_1), ((HB.out.cell (World.block_lt_of_cell? w _ hw362_2)).trans hw362_2), ((HB.out.cell (World.block_lt_of_cell? w _ hw362_3)).trans hw362_3)⟩ (fun hHeld => ?_)
         clear hK K
         refine nm ?_
         refine two_ (i := 7) (j := 14) (Ni := some 27) (Nj := some 34) #[true, true, true, true, true, true, true, true, true, true, true, true, true, true, false, false, false, false] #[true, true, true, true, true, true, true, false, true, true, true, true, true, true, true, false, false, false] rfl rfl rfl rfl (two_of HT_.out (by kernel_rfl)) (by decide) (by decide) (fun K hK => ?_) (fun K hK => ?_)
         ·skip
          refine Kd.R_append_rows_step Kd.string (w0 := w) w.heap.size (by rfl) (.tmp 20) (.tmp 26) 44 9 (.string ⟨#[]⟩) 16 rfl Try.underlying44 info9 rfl (by decide) (by omega) (.slice Ao10 x10_1.length co10) x10_1 y356 _ _ _ (fun k_ => some k_ ≠ (.slice Ao16 y356.length co16 : Value).ownBlock) (fun _ => False) rfl rfl ?aO ?aR (fun _ _ h => h) (fun _ h => h.elim) ?aF ?aB ?aS ?aL ?_
          (case aR => repeat (first | exact (Kd.R_reads' HO358.out).2.2 | (with_reducible refine Kd.C_alloc ?_ _) | (with_reducible refine Kd.C_drewN ?_ _) | (with_reducible refine Kd.C_drew ?_)))
          (case aB => exact (pb HB))
          (case aF => exact (fun k_ hk => Kd.fresh' (Kd.R_lt (pr HO358.out)) k_ hk))
          (case aO => exact (pr (Kd.R_mono HO_10.out (fun _ hk => hk.2))))
          (case aS => exact (below_size (pb HB)))
          (case aL => have := LMc8.out; omega)
          intro v360 w15 ho hb hg hat
          rw [← Ny359.out] at ho;have n0_ := am (Kd.R_over' (pr HO_11.out) (Kd.R_typed (pr HO_10.out)) (by decide) hg);have n1_ := am (blk_grown (g := gb354) (o := .cells #[.int .u64 a0_0, .int .u64 a0_1] 24 (0, 0)) (pk BK354.out) hg (Kd.R_ne HO_10.out BK354.out (by decide)));have n2_ := am (Kd.R_after (ok := (fun _ => True)) (pr HO358.out) hg hat);have n3_ := am (hb);have n4_ := am (ho);clear HO_11 BK354 HO358 HB HO_10;have HO_11 := n0_;have BK354 := n1_;have HO358 := n2_;have HB := n3_;have HO361 := n4_;clear n0_ n1_ n2_ n3_ n4_ ho hb hg hat
          refine hK.out _ _ ⟨((HB.out.cell (World.block_lt_of_cell? w _ hw355_0)).trans hw355_0), ((HB.out.cell (World.block_lt_of_cell? w _ hw355_1)).trans hw355_1), ((HB.out.cell (World.block_lt_of_cell? w _ hw355_2)).trans hw355_2), ((HB.out.cell (World.block_lt_of_cell? w _ hw355_3)).trans hw355_3), ((HB.out.cell (World.block_lt_of_cell? w _ hw362_0)).trans hw362_0), ((HB.out.cell (World.block_lt_of_cell? w _ hw362_1)).trans hw362_1), ((HB.out.cell (World.block_lt_of_cell? w _ hw362_2)).trans hw362_2), ((HB.out.cell (World.block_lt_of_cell? w _ hw362_3)).trans hw362_3)⟩ (fun hHeld => ?_)
          clear hK K
          refine nm ?_
          refine on1 14 (fun K hK => ?_)
          refine Kd.R_lit_step k50 _ 50 ?hg (N := 34) ?hd (xs := ([(⟨(rd_T60 l1 x12_1).f2.f0, (rd_T60 l1 x12_1).f2.f1⟩ : S50)] : List (S50))) (inner := [.int .u64 ((rd_T60 l1 x12_1).f2.f0), .int .u64 ((rd_T60 l1 x12_1).f2.f1)]) (ok := fun _ => True) (okp := fun _ => True) ?hr ?hp (fun _ hk => hk) trivial (Below.refl _ _) (Nat.le_refl _) (by simp) ?_; (case hd => rfl); (case hg => rfl); (case hr => first | (go_simp; done) | (go_simp; rfl)); (case hp => exact (Reps.c2 (show Kd.M k50 _ _ _ (⟨(rd_T60 l1 x12_1).f2.f0, (rd_T60 l1 x12_1).f2.f1⟩ : S50) [.int .u64 ((rd_T60 l1 x12_1).f2.f0), .int .u64 ((rd_T60 l1 x12_1).f2.f1)] from (k50_mkM _ _ _ (⟨(rd_T60 l1 x12_1).f2.f0, (rd_T60 l1 x12_1).f2.f1⟩ : S50) )) (Reps.none _ _)))
          intro v364 w17 ho18 hb hg_ hnew_
          clear hg_ hnew_
          (first | rw [← Ny363.out] at ho18 | (simp only [Int.reduceToNat] at ho18; rw [← Ny363.out] at ho18))
          have n0_ := am (Kd.R_elder' (pr HO_11.out) (Kd.R_base ho18) hb);have n1_ := am (Kd.R_below (pr HO358.out) hb);have n2_ := am (Kd.R_below (pr HO361.out) hb);have n3_ := am (Kd.R_lower (Kd.R_new' ho18 (Kd.R_lt (pr HO_11.out))) (below_size (pb HB)));have n4_ := am (blk_below (pk BK354.out) hb);have n5_ := am (below_step (pb HB) hb);clear HO_11 HO358 HO361 BK354 HB;have HO_11 := n0_;have HO358 := n1_;have HO361 := n2_;have HO365 := n3_;have BK354 := n4_;have HB := n5_;clear n0_ n1_ n2_ n3_ n4_ n5_ hb ho18
          refine hK.out _ _ ⟨((HB.out.cell (World.block_lt_of_cell? w _ hw355_0)).trans hw355_0), ((HB.out.cell (World.block_lt_of_cell? w _ hw355_1)).trans hw355_1), ((HB.out.cell (World.block_lt_of_cell? w _ hw355_2)).trans hw355_2), ((HB.out.cell (World.block_lt_of_cell? w _ hw355_3)).trans hw355_3), ((HB.out.cell (World.block_lt_of_cell? w _ hw362_0)).trans hw362_0), ((HB.out.cell (World.block_lt_of_cell? w _ hw362_1)).trans hw362_1), ((HB.out.cell (World.block_lt_of_cell? w _ hw362_2)).trans hw362_2), ((HB.out.cell (World.block_lt_of_cell? w _ hw362_3)).trans hw362_3)⟩ (fun hHeld => ?_)
          clear hK K
          refine nm ?_
          exact nj (hCont (.slice Ao16 y356.length co16, v360, v364) _ ⟨hHeld, (pr (Kd.R_mono HO358.out (fun _ hk => hk.2))), (pr HO361.out), (pr (Kd.R_mono HO365.out (fun _ hk => hk.2))), (pr (Kd.R_mono HO_11.out (fun _ hk => hk.2))), (pk BK354.out), (pb HB)⟩)
         ·skip
          refine Kd.R_lit_step k50 _ 50 ?hg (N := 34) ?hd (xs := ([(⟨(rd_T60 l1 x12_1).f2.f0, (rd_T60 l1 x12_1).f2.f1⟩ : S50)] : List (S50))) (inner := [.int .u64 ((rd_T60 l1 x12_1).f2.f0), .int .u64 ((rd_T60 l1 x12_1).f2.f1)]) (ok := fun _ => True) (okp := fun _ => True) ?hr ?hp (fun _ hk => hk) trivial (Below.refl _ _) (Nat.le_refl _) (by simp) ?_; (case hd => rfl); (case hg => rfl); (case hr => first | (go_simp; done) | (go_simp; rfl)); (case hp => exact (Reps.c2 (show Kd.M k50 _ _ _ (⟨(rd_T60 l1 x12_1).f2.f0, (rd_T60 l1 x12_1).f2.f1⟩ : S50) [.int .u64 ((rd_T60 l1 x12_1).f2.f0), .int .u64 ((rd_T60 l1 x12_1).f2.f1)] from (k50_mkM _ _ _ (⟨(rd_T60 l1 x12_1).f2.f0, (rd_T60 l1 x12_1).f2.f1⟩ : S50) )) (Reps.none _ _)))
          intro v364 w15 ho16 hb hg_ hnew_
          clear hg_ hnew_
          (first | rw [← Ny363.out] at ho16 | (simp only [Int.reduceToNat] at ho16; rw [← Ny363.out] at ho16))
          have n0_ := am (Kd.R_below (pr HO_10.out) hb);have n1_ := am (Kd.R_elder' (pr HO_11.out) (Kd.R_base ho16) hb);have n2_ := am (Kd.R_below (pr HO358.out) hb);have n3_ := am (Kd.R_lower (Kd.R_new' ho16 (Kd.R_lt (pr HO_11.out))) (below_size (pb HB)));have n4_ := am (blk_below (pk BK354.out) hb);have n5_ := am (below_step (pb HB) hb);clear HO_10 HO_11 HO358 BK354 HB;have HO_10 := n0_;have HO_11 := n1_;have HO358 := n2_;have HO365 := n3_;have BK354 := n4_;have HB := n5_;clear n0_ n1_ n2_ n3_ n4_ n5_ hb ho16;obtain ⟨Ao18, co18, eo18⟩ := Kd.R_slice HO358.out
          (first | subst eo18 | (injection eo18 with f1_ f2_ f3_; have f4_ := f1_.symm; have f5_ := f3_.symm; clear f1_ f2_ f3_; subst f4_; subst f5_))
          refine hK.out _ _ ⟨((HB.out.cell (World.block_lt_of_cell? w _ hw355_0)).trans hw355_0), ((HB.out.cell (World.block_lt_of_cell? w _ hw355_1)).trans hw355_1), ((HB.out.cell (World.block_lt_of_cell? w _ hw355_2)).trans hw355_2), ((HB.out.cell (World.block_lt_of_cell? w _ hw355_3)).trans hw355_3), ((HB.out.cell (World.block_lt_of_cell? w _ hw362_0)).trans hw362_0), ((HB.out.cell (World.block_lt_of_cell? w _ hw362_1)).trans hw362_1), ((HB.out.cell (World.block_lt_of_cell? w _ hw362_2)).trans hw362_2), ((HB.out.cell (World.block_lt_of_cell? w _ hw362_3)).trans hw362_3)⟩ (fun hHeld => ?_)
          clear hK K
          refine nm ?_
          refine on1 7 (fun K hK => ?_)
          refine Kd.R_append_rows_step Kd.string (w0 := w) w.heap.size (by rfl) (.tmp 20) (.tmp 26) 44 9 (.string ⟨#[]⟩) 16 rfl Try.underlying44 info9 rfl (by decide) (by omega) (.slice Ao10 x10_1.length co10) x10_1 y356 _ _ _ (fun k_ => some k_ ≠ (.slice Ao18 y356.length co18 : Value).ownBlock) (fun _ => False) rfl rfl ?aO ?aR (fun _ _ h => h) (fun _ h => h.elim) ?aF ?aB ?aS ?aL ?_
          (case aR => repeat (first | exact (Kd.R_reads' HO358.out).2.2 | (with_reducible refine Kd.C_alloc ?_ _) | (with_reducible refine Kd.C_drewN ?_ _) | (with_reducible refine Kd.C_drew ?_)))
          (case aB => exact (pb HB))
          (case aF => exact (fun k_ hk => Kd.fresh' (Kd.R_lt (pr HO358.out)) k_ hk))
          (case aO => exact (pr (Kd.R_mono HO_10.out (fun _ hk => hk.2))))
          (case aS => exact (below_size (pb HB)))
          (case aL => have := LMc8.out; omega)
          intro v360 w17 ho hb hg hat
          rw [← Ny359.out] at ho;have n0_ := am (Kd.R_over' (pr HO_11.out) (Kd.R_typed (pr HO_10.out)) (by decide) hg);have n1_ := am (blk_grown (g := gb354) (o := .cells #[.int .u64 a0_0, .int .u64 a0_1] 24 (0, 0)) (pk BK354.out) hg (Kd.R_ne HO_10.out BK354.out (by decide)));have n2_ := am (Kd.R_after (ok := (fun _ => True)) (pr HO358.out) hg hat);have n3_ := am (Kd.R_over' (pr HO365.out) (Kd.R_typed (pr HO_10.out)) (by decide) hg);have n4_ := am (hb);have n5_ := am (ho);clear HO_11 BK354 HO358 HO365 HB HO_10;have HO_11 := n0_;have BK354 := n1_;have HO358 := n2_;have HO365 := n3_;have HB := n4_;have HO361 := n5_;clear n0_ n1_ n2_ n3_ n4_ n5_ ho hb hg hat
          refine hK.out _ _ ⟨((HB.out.cell (World.block_lt_of_cell? w _ hw355_0)).trans hw355_0), ((HB.out.cell (World.block_lt_of_cell? w _ hw355_1)).trans hw355_1), ((HB.out.cell (World.block_lt_of_cell? w _ hw355_2)).trans hw355_2), ((HB.out.cell (World.block_lt_of_cell? w _ hw355_3)).trans hw355_3), ((HB.out.cell (World.block_lt_of_cell? w _ hw362_0)).trans hw362_0), ((HB.out.cell (World.block_lt_of_cell? w _ hw362_1)).trans hw362_1), ((HB.out.cell (World.block_lt_of_cell? w _ hw362_2)).trans hw362_2), ((HB.out.cell (World.block_lt_of_cell? w _ hw362_3)).trans hw362_3)⟩ (fun hHeld => ?_)
          clear hK K
          refine nm ?_
          exact nj (hCont (.slice Ao18 y356.length co18, v360, v364) _ ⟨hHeld, (pr (Kd.R_mono HO358.out (fun _ hk => hk.2))), (pr HO361.out), (pr (Kd.R_mono HO365.out (fun _ hk => hk.2))), (pr (Kd.R_mono HO_11.out (fun _ hk => hk.2))), (pk BK354.out), (pb HB)⟩)
        ·skip
         refine Kd.R_lit_step k50 _ 50 ?hg (N := 34) ?hd (xs := ([(⟨(rd_T60 l1 x12_1).f2.f0, (rd_T60 l1 x12_1).f2.f1⟩ : S50)] : List (S50))) (inner := [.int .u64 ((rd_T60 l1 x12_1).f2.f0), .int .u64 ((rd_T60 l1 x12_1).f2.f1)]) (ok := fun _ => True) (okp := fun _ => True) ?hr ?hp (fun _ hk => hk) trivial (Below.refl _ _) (Nat.le_refl _) (by simp) ?_; (case hd => rfl); (case hg => rfl); (case hr => first | (go_simp; done) | (go_simp; rfl)); (case hp => exact (Reps.c2 (show Kd.M k50 _ _ _ (⟨(rd_T60 l1 x12_1).f2.f0, (rd_T60 l1 x12_1).f2.f1⟩ : S50) [.int .u64 ((rd_T60 l1 x12_1).f2.f0), .int .u64 ((rd_T60 l1 x12_1).f2.f1)] from (k50_mkM _ _ _ (⟨(rd_T60 l1 x12_1).f2.f0, (rd_T60 l1 x12_1).f2.f1⟩ : S50) )) (Reps.none _ _)))
         intro v364 w13 ho14 hb hg_ hnew_
         clear hg_ hnew_
         (first | rw [← Ny363.out] at ho14 | (simp only [Int.reduceToNat] at ho14; rw [← Ny363.out] at ho14))
         have n0_ := am (Kd.R_below (pr HO_10.out) hb);have n1_ := am (Kd.R_elder' (pr HO_11.out) (Kd.R_base ho14) hb);have n2_ := am (Kd.R_lower (Kd.R_new' ho14 (Kd.R_lt (pr HO_11.out))) (below_size (pb HB)));have n3_ := am (blk_below (pk BK354.out) hb);have n4_ := am (below_step (pb HB) hb);clear HO_10 HO_11 BK354 HB;have HO_10 := n0_;have HO_11 := n1_;have HO365 := n2_;have BK354 := n3_;have HB := n4_;clear n0_ n1_ n2_ n3_ n4_ hb ho14
         refine hK.out _ _ ⟨((HB.out.cell (World.block_lt_of_cell? w _ hw355_0)).trans hw355_0), ((HB.out.cell (World.block_lt_of_cell? w _ hw355_1)).trans hw355_1), ((HB.out.cell (World.block_lt_of_cell? w _ hw355_2)).trans hw355_2), ((HB.out.cell (World.block_lt_of_cell? w _ hw355_3)).trans hw355_3), ((HB.out.cell (World.block_lt_of_cell? w _ hw362_0)).trans hw362_0), ((HB.out.cell (World.block_lt_of_cell? w _ hw362_1)).trans hw362_1), ((HB.out.cell (World.block_lt_of_cell? w _ hw362_2)).trans hw362_2), ((HB.out.cell (World.block_lt_of_cell? w _ hw362_3)).trans hw362_3)⟩ (fun hHeld => ?_)
         clear hK K
         refine nm ?_
         refine on1 6 (fun K hK => ?_)
         refine Kd.R_lit_step Kd.string _ 9 ?hg (N := 26) ?hd (xs := ([(rd_T60 l1 x12_1).f0] : List ByteArray)) (inner := [.string ((rd_T60 l1 x12_1).f0)]) (ok := fun _ => True) (okp := fun _ => True) ?hr ?hp (fun _ hk => hk) trivial (Below.refl _ _) (Nat.le_refl _) (by simp) ?_; (case hd => rfl); (case hg => rfl); (case hr => first | (go_simp; done) | (go_simp; rfl)); (case hp => exact (Reps.one (show Kd.M Kd.string _ _ _ ((rd_T60 l1 x12_1).f0) [.string ((rd_T60 l1 x12_1).f0)] from rfl) (Reps.none _ _)))
         intro v357 w15 ho16 hb hg_ hnew_
         clear hg_ hnew_
         (first | rw [← Ny356.out] at ho16 | (simp only [Int.reduceToNat] at ho16; rw [← Ny356.out] at ho16))
         have n0_ := am (Kd.R_elder' (pr HO_10.out) (Kd.R_base ho16) hb);have n1_ := am (Kd.R_below (pr HO_11.out) hb);have n2_ := am (Kd.R_below (pr HO365.out) hb);have n3_ := am (Kd.R_lower (Kd.R_new' ho16 (Kd.R_lt (pr HO_10.out))) (below_size (pb HB)));have n4_ := am (blk_below (pk BK354.out) hb);have n5_ := am (below_step (pb HB) hb);clear HO_10 HO_11 HO365 BK354 HB;have HO_10 := n0_;have HO_11 := n1_;have HO365 := n2_;have HO358 := n3_;have BK354 := n4_;have HB := n5_;clear n0_ n1_ n2_ n3_ n4_ n5_ hb ho16;obtain ⟨Ao18, co18, eo18⟩ := Kd.R_slice HO358.out
         (first | subst eo18 | (injection eo18 with f1_ f2_ f3_; have f4_ := f1_.symm; have f5_ := f3_.symm; clear f1_ f2_ f3_; subst f4_; subst f5_))
         refine hK.out _ _ ⟨((HB.out.cell (World.block_lt_of_cell? w _ hw355_0)).trans hw355_0), ((HB.out.cell (World.block_lt_of_cell? w _ hw355_1)).trans hw355_1), ((HB.out.cell (World.block_lt_of_cell? w _ hw355_2)).trans hw355_2), ((HB.out.cell (World.block_lt_of_cell? w _ hw355_3)).trans hw355_3), ((HB.out.cell (World.block_lt_of_cell? w _ hw362_0)).trans hw362_0), ((HB.out.cell (World.block_lt_of_cell? w _ hw362_1)).trans hw362_1), ((HB.out.cell (World.block_lt_of_cell? w _ hw362_2)).trans hw362_2), ((HB.out.cell (World.block_lt_of_cell? w _ hw362_3)).trans hw362_3)⟩ (fun hHeld => ?_)
         clear hK K
         refine nm ?_
         refine on1 7 (fun K hK => ?_)
         refine Kd.R_append_rows_step Kd.string (w0 := w) w.heap.size (by rfl) (.tmp 20) (.tmp 26) 44 9 (.string ⟨#[]⟩) 16 rfl Try.underlying44 info9 rfl (by decide) (by omega) (.slice Ao10 x10_1.length co10) x10_1 y356 _ _ _ (fun k_ => some k_ ≠ (.slice Ao18 y356.length co18 : Value).ownBlock) (fun _ => False) rfl rfl ?aO ?aR (fun _ _ h => h) (fun _ h => h.elim) ?aF ?aB ?aS ?aL ?_
         (case aR => repeat (first | exact (Kd.R_reads' HO358.out).2.2 | (with_reducible refine Kd.C_alloc ?_ _) | (with_reducible refine Kd.C_drewN ?_ _) | (with_reducible refine Kd.C_drew ?_)))
         (case aB => exact (pb HB))
         (case aF => exact (fun k_ hk => Kd.fresh' (Kd.R_lt (pr HO358.out)) k_ hk))
         (case aO => exact (pr (Kd.R_mono HO_10.out (fun _ hk => hk.2))))
         (case aS => exact (below_size (pb HB)))
         (case aL => have := LMc8.out; omega)
         intro v360 w17 ho hb hg hat
         rw [← Ny359.out] at ho;have n0_ := am (Kd.R_over' (pr HO_11.out) (Kd.R_typed (pr HO_10.out)) (by decide) hg);have n1_ := am (blk_grown (g := gb354) (o := .cells #[.int .u64 a0_0, .int .u64 a0_1] 24 (0, 0)) (pk BK354.out) hg (Kd.R_ne HO_10.out BK354.out (by decide)));have n2_ := am (Kd.R_over' (pr HO365.out) (Kd.R_typed (pr HO_10.out)) (by decide) hg);have n3_ := am (Kd.R_after (ok := (fun _ => True)) (pr HO358.out) hg hat);have n4_ := am (hb);have n5_ := am (ho);clear HO_11 BK354 HO365 HO358 HB HO_10;have HO_11 := n0_;have BK354 := n1_;have HO365 := n2_;have HO358 := n3_;have HB := n4_;have HO361 := n5_;clear n0_ n1_ n2_ n3_ n4_ n5_ ho hb hg hat
         refine hK.out _ _ ⟨((HB.out.cell (World.block_lt_of_cell? w _ hw355_0)).trans hw355_0), ((HB.out.cell (World.block_lt_of_cell? w _ hw355_1)).trans hw355_1), ((HB.out.cell (World.block_lt_of_cell? w _ hw355_2)).trans hw355_2), ((HB.out.cell (World.block_lt_of_cell? w _ hw355_3)).trans hw355_3), ((HB.out.cell (World.block_lt_of_cell? w _ hw362_0)).trans hw362_0), ((HB.out.cell (World.block_lt_of_cell? w _ hw362_1)).trans hw362_1), ((HB.out.cell (World.block_lt_of_cell? w _ hw362_2)).trans hw362_2), ((HB.out.cell (World.block_lt_of_cell? w _ hw362_3)).trans hw362_3)⟩ (fun hHeld => ?_)
         clear hK K
         refine nm ?_
         exact nj (hCont (.slice Ao18 y356.length co18, v360, v364) _ ⟨hHeld, (pr (Kd.R_mono HO358.out (fun _ hk => hk.2))), (pr HO361.out), (pr (Kd.R_mono HO365.out (fun _ hk => hk.2))), (pr (Kd.R_mono HO_11.out (fun _ hk => hk.2))), (pk BK354.out), (pb HB)⟩)
       rintro ⟨v357, v360, v364⟩ w19 ⟨hS_, h0_, h1_, h2_, h3_, h4_, h5_⟩
       have HO358 : Aside0 (Kd.R Kd.string 9 w19 w.heap.size (fun k_ => some k_ ≠ (v360 : Value).ownBlock) v357 y356) := ⟨h0_⟩;have HO361 : Aside0 (Kd.R Kd.string 9 w19 w.heap.size (fun k_ => some k_ ≠ (v357 : Value).ownBlock) v360 y359) := ⟨h1_⟩;have HO365 : Aside0 (Kd.R k50 50 w19 w.heap.size (fun k_ => some k_ ≠ (.slice Ao11 x11_1.length co11 : Value).ownBlock) v364 y363) := ⟨h2_⟩;replace HO_11 : Aside0 (Kd.R k50 50 w19 w.heap.size (fun k_ => some k_ ≠ (v364 : Value).ownBlock) (.slice Ao11 x11_1.length co11) x11_1) := ⟨h3_⟩;replace BK354 : Aside0 (w19.heap[gb354]? = some (.cells #[.int .u64 a0_0, .int .u64 a0_1] 24 (0, 0))) := ⟨h4_⟩;replace HB : Aside0 (Below w.heap.size w w19) := ⟨h5_⟩;clear HO_10 h0_ h1_ h2_ h3_ h4_ h5_;have hHeld : w19.cell? (ad355.add ((x12_1).toNat * 4)) = some (.string ((rd_T60 l1 x12_1).f0)) ∧ w19.cell? ⟨(ad355.add ((x12_1).toNat * 4)).block, (ad355.add ((x12_1).toNat * 4)).off + 1, none⟩ = some (.int .u64 ((rd_T60 l1 x12_1).f1)) ∧ w19.cell? ⟨(ad355.add ((x12_1).toNat * 4)).block, (ad355.add ((x12_1).toNat * 4)).off + 2, none⟩ = some (.int .u64 ((rd_T60 l1 x12_1).f2.f0)) ∧ w19.cell? ⟨(ad355.add ((x12_1).toNat * 4)).block, (ad355.add ((x12_1).toNat * 4)).off + 3, none⟩ = some (.int .u64 ((rd_T60 l1 x12_1).f2.f1)) ∧ w19.cell? (ad355.add ((x12_1).toNat * 4)) = some (.string ((rd_T60 l1 x12_1).f0)) ∧ w19.cell? ⟨(ad355.add ((x12_1).toNat * 4)).block, (ad355.add ((x12_1).toNat * 4)).off + 1, none⟩ = some (.int .u64 ((rd_T60 l1 x12_1).f1)) ∧ w19.cell? ⟨(ad355.add ((x12_1).toNat * 4)).block, (ad355.add ((x12_1).toNat * 4)).off + 2, none⟩ = some (.int .u64 ((rd_T60 l1 x12_1).f2.f0)) ∧ w19.cell? ⟨(ad355.add ((x12_1).toNat * 4)).block, (ad355.add ((x12_1).toNat * 4)).off + 3, none⟩ = some (.int .u64 ((rd_T60 l1 x12_1).f2.f1)) := hS_;obtain ⟨Ao21, co21, eo21⟩ := Kd.R_slice HO365.out
       (first | subst eo21 | (injection eo21 with f1_ f2_ f3_; have f4_ := f1_.symm; have f5_ := f3_.symm; clear f1_ f2_ f3_; subst f4_; subst f5_))
       refine norm_ (a' := ?_) ?_ ?_
       rotate_left
       ·simp only [putAll, Act.put, List.setIfInBounds_toArray, List.set_cons_zero, List.set_cons_succ]
        rfl
       refine on1 15 (fun K hK => ?_)
       refine Kd.R_append_rows_step k50 (w0 := w) w.heap.size (by rfl) (.tmp 28) (.tmp 34) 45 50 (.agg #[(.int .u64 0), (.int .u64 0)]) 16 rfl Try.underlying45 info50 rfl (by decide) (by omega) (.slice Ao11 x11_1.length co11) x11_1 y363 _ _ _ (fun k_ => some k_ ≠ (.slice Ao21 y363.length co21 : Value).ownBlock) (fun _ => False) rfl rfl ?aO ?aR (fun _ _ h => h) (fun _ h => h.elim) ?aF ?aB ?aS ?aL ?_
       (case aR => repeat (first | exact (Kd.R_reads' HO365.out).2.2 | (with_reducible refine Kd.C_alloc ?_ _) | (with_reducible refine Kd.C_drewN ?_ _) | (with_reducible refine Kd.C_drew ?_)))
       (case aB => exact (pb HB))
       (case aF => exact (fun k_ hk => Kd.fresh' (Kd.R_lt (pr HO365.out)) k_ hk))
       (case aO => exact (pr HO_11.out))
       (case aS => exact (below_size (pb HB)))
       (case aL => have := LMc9.out; omega)
       intro v367 w20 ho hb hg hat
       rw [← Ny366.out] at ho;have n0_ := am (blk_grown (g := gb354) (o := .cells #[.int .u64 a0_0, .int .u64 a0_1] 24 (0, 0)) (pk BK354.out) hg (Kd.R_ne HO_11.out BK354.out (by decide)));have n1_ := am (Kd.R_over' (pr HO358.out) (Kd.R_typed (pr HO_11.out)) (by decide) hg);have n2_ := am (Kd.R_over' (pr HO361.out) (Kd.R_typed (pr HO_11.out)) (by decide) hg);have n3_ := am (Kd.R_after (ok := (fun _ => True)) (pr (Kd.R_mono HO365.out (fun _ hk => ⟨trivial, hk⟩))) hg hat);have n4_ := am (hb);have n5_ := am (ho);clear BK354 HO358 HO361 HO365 HB HO_11;have BK354 := n0_;have HO358 := n1_;have HO361 := n2_;have HO365 := n3_;have HB := n4_;have HO368 := n5_;clear n0_ n1_ n2_ n3_ n4_ n5_ ho hb hg hat
       refine hK.out _ _ ⟨((HB.out.cell (World.block_lt_of_cell? w _ hw355_0)).trans hw355_0), ((HB.out.cell (World.block_lt_of_cell? w _ hw355_1)).trans hw355_1), ((HB.out.cell (World.block_lt_of_cell? w _ hw355_2)).trans hw355_2), ((HB.out.cell (World.block_lt_of_cell? w _ hw355_3)).trans hw355_3), ((HB.out.cell (World.block_lt_of_cell? w _ hw362_0)).trans hw362_0), ((HB.out.cell (World.block_lt_of_cell? w _ hw362_1)).trans hw362_1), ((HB.out.cell (World.block_lt_of_cell? w _ hw362_2)).trans hw362_2), ((HB.out.cell (World.block_lt_of_cell? w _ hw362_3)).trans hw362_3)⟩ (fun hHeld => ?_)
       clear hK K
       refine nm ?_
       refine pu 16 ?_
       refine pu 17 ?_
       refine done_ (done_of HT_.out (by kernel_rfl)) ?_
       try go_wp2
       go_roundg k1
       case measure => have := HK1.out; omega
       case rel => exact ⟨(y359), (y366), (wrap64 (x12_1 + 1)), (by first | rfl | (simp; done) | (simp [*]; done)), H', ⟨by have := HK1.out; omega⟩, ⟨by refine pr ?_; exact Kd.R_mono HO361.out (fun _ hk => trivial)⟩, ⟨by refine pr ?_; exact Kd.R_mono HO368.out (fun _ hk => trivial)⟩, ⟨pk BK354.out⟩, ⟨pb HB⟩⟩
      ·rw [if_neg c9] at H;exact absurd H (by simp)
     ·rw [if_neg c8] at H;exact absurd H (by simp)
    ·rw [if_neg c7] at H;exact absurd H (by simp)
   ·rw [if_neg c6] at H;have c6b0 : decide (x12_1 < (l1.length : Int)) = false := decide_eq_false c6;clear c6;have H' := am H;clear H
    go_wp2
    go_loopg [10, 11, 13] k1 (fun kq v10 v11 v13 w' => ∃ (x10_2 : List ByteArray) (x11_2 : List (S50)) (x13_2 : Int), v13 = .int .i64 x13_2 ∧ Aside0 (r14_Joined.l1 kq l2 a3 x10_2 x11_2 x13_2 a0_0 a0_1 = some (r1, r2)) ∧ Aside0 (kq ≤ k1) ∧ Aside0 (Kd.R Kd.string 9 w' w.heap.size (fun _ => True) v10 x10_2) ∧ Aside0 (Kd.R k50 50 w' w.heap.size (fun _ => True) v11 x11_2) ∧ Aside0 (w'.heap[gb354]? = some (.cells #[.int .u64 a0_0, .int .u64 a0_1] 24 (0, 0))) ∧ Aside0 (Below w.heap.size w w'))
    case atStart => exact ⟨(x10_1), (x11_1), (0), (by first | rfl | (simp; done) | (simp [*]; done)), H', ⟨Nat.le_refl _⟩, ⟨pr HO_10.out⟩, ⟨pr HO_11.out⟩, ⟨pk BK354.out⟩, ⟨pb HB⟩⟩
    case round =>
     clear H';(try clear c1);(try clear c2);(try clear p2);(try clear p3);(try clear q3);(try clear hx3);(try clear c6);(try clear c6b0);(try clear p6);(try clear c7);(try clear c7b0);(try clear c8);(try clear c9);(try clear c15);(try clear hx355_0);(try clear hx355_1);(try clear hx355_2);(try clear hx355_3);(try clear hx362_0);(try clear hx362_1);(try clear hx362_2);(try clear hx362_3);(try clear p2);(try clear p355);(try clear p362);(try clear q355);(try clear q362);obtain ⟨x10_2, x11_2, x13_2, rfl, HA, HK2, HO_10, HO_11, BK354, HB⟩ := hrel
     cases gk with
     | zero => exact absurd HA.out (by simp [r14_Joined.l1])
     | succ k2 =>
      have H := HA.out;clear HA
      simp only [r14_Joined.l1] at H
      by_cases c22 : x13_2 < (l2.length : Int)
      ·rw [if_pos c22] at H;have c22b0 : decide (x13_2 < (l2.length : Int)) = true := decide_eq_true c22;clear c22
       by_cases c23 : 0 ≤ x13_2
       ·rw [if_pos c23] at H;have c23b0 : decide (0 ≤ x13_2) = true := decide_eq_true c23;clear c23;obtain ⟨y370, hy370⟩ : ∃ y_ : List ByteArray, y_ = (([(rd_T60 l2 x13_2).f0] : List ByteArray)) := ⟨_, rfl⟩
        replace H : (if x10_2.length + y370.length < 8796093022208 then ((some (([(⟨(rd_T60 l2 x13_2).f2.f0, (rd_T60 l2 x13_2).f2.f1⟩ : S50)] : List (S50)) : List (S50))).bind fun y377 => (if x11_2.length + y377.length < 8796093022208 then (r14_Joined.l1 k2 l2 a3 (x10_2 ++ y370) (x11_2 ++ y377) (wrap64 (x13_2 + 1)) a0_0 a0_1) else (none))) else (none)) = some (r1, r2) := by first | (rw [hy370]; with_reducible exact H) | (have H2_ := (Option.bind_some _ _).symm.trans H; rw [hy370]; with_reducible exact H2_) | (have H2_ := (Option.bind_some _ _).symm.trans H; with_reducible exact H2_) | with_reducible exact H | (rw [hy370]; exact H) | exact H
        have Ny370 := am hy370;clear hy370
        by_cases c24 : x10_2.length + y370.length < 8796093022208
        ·rw [if_pos c24] at H;have LMc24 := am c24;clear c24;obtain ⟨y373, hy373⟩ : ∃ y_ : List ByteArray, y_ = (x10_2 ++ y370) := ⟨_, rfl⟩
         replace H : ((some (([(⟨(rd_T60 l2 x13_2).f2.f0, (rd_T60 l2 x13_2).f2.f1⟩ : S50)] : List (S50)) : List (S50))).bind fun y377 => (if x11_2.length + y377.length < 8796093022208 then (r14_Joined.l1 k2 l2 a3 y373 (x11_2 ++ y377) (wrap64 (x13_2 + 1)) a0_0 a0_1) else (none))) = some (r1, r2) := by first | (rw [hy373]; with_reducible exact H) | (have H2_ := (Option.bind_some _ _).symm.trans H; rw [hy373]; with_reducible exact H2_) | (have H2_ := (Option.bind_some _ _).symm.trans H; with_reducible exact H2_) | with_reducible exact H | (rw [hy373]; exact H) | exact H
         have Ny373 := am hy373;clear hy373;obtain ⟨y377, hy377⟩ : ∃ y_ : List (S50), y_ = (([(⟨(rd_T60 l2 x13_2).f2.f0, (rd_T60 l2 x13_2).f2.f1⟩ : S50)] : List (S50))) := ⟨_, rfl⟩
         replace H : (if x11_2.length + y377.length < 8796093022208 then (r14_Joined.l1 k2 l2 a3 y373 (x11_2 ++ y377) (wrap64 (x13_2 + 1)) a0_0 a0_1) else (none)) = some (r1, r2) := by first | (rw [hy377]; with_reducible exact H) | (have H2_ := (Option.bind_some _ _).symm.trans H; rw [hy377]; with_reducible exact H2_) | (have H2_ := (Option.bind_some _ _).symm.trans H; with_reducible exact H2_) | with_reducible exact H | (rw [hy377]; exact H) | exact H
         have Ny377 := am hy377;clear hy377
         by_cases c25 : x11_2.length + y377.length < 8796093022208
         ·rw [if_pos c25] at H;have LMc25 := am c25;clear c25;obtain ⟨y380, hy380⟩ : ∃ y_ : List (S50), y_ = (x11_2 ++ y377) := ⟨_, rfl⟩
          replace H : (r14_Joined.l1 k2 l2 a3 y373 y380 (wrap64 (x13_2 + 1)) a0_0 a0_1) = some (r1, r2) := by first | (rw [hy380]; with_reducible exact H) | (have H2_ := (Option.bind_some _ _).symm.trans H; rw [hy380]; with_reducible exact H2_) | (have H2_ := (Option.bind_some _ _).symm.trans H; with_reducible exact H2_) | with_reducible exact H | (rw [hy380]; exact H) | exact H
          have Ny380 := am hy380;clear hy380;have H' := am H;clear H;obtain ⟨Ao26, co26, eo26⟩ := Kd.R_slice HO_10.out;subst eo26;obtain ⟨Ao27, co27, eo27⟩ := Kd.R_slice HO_11.out;subst eo27
          try go_wp2
          replace HO_10 := am (Kd.R_drew HO_10.out);replace HO_11 := am (Kd.R_drew HO_11.out);replace BK354 := am (blk_drew BK354.out);replace HB := am (below_drew1 HB.out);have p369 : 0 ≤ (x13_2 : Int) := of_decide_eq_true (by first | (with_reducible assumption) | assumption);have q369 : x13_2 < (l2.length : Int) := of_decide_eq_true (by first | (with_reducible assumption) | assumption);obtain ⟨ad369, e369, hx369_0, hx369_1, hx369_2, hx369_3⟩ := at_T60 HR2.out x13_2 p369 q369;have hw369_3 := hx369_3;have hw369_2 := hx369_2;have hw369_1 := hx369_1;have hw369_0 := hx369_0;cases e369;replace hx369_0 := (HB.out.cell (World.block_lt_of_cell? w _ hx369_0)).trans hx369_0;replace hx369_1 := (HB.out.cell (World.block_lt_of_cell? w _ hx369_1)).trans hx369_1;replace hx369_2 := (HB.out.cell (World.block_lt_of_cell? w _ hx369_2)).trans hx369_2;replace hx369_3 := (HB.out.cell (World.block_lt_of_cell? w _ hx369_3)).trans hx369_3;replace p369 := eq_true p369;replace q369 := eq_true q369;have p376 : 0 ≤ (x13_2 : Int) := of_decide_eq_true (by first | (with_reducible assumption) | assumption);have q376 : x13_2 < (l2.length : Int) := of_decide_eq_true (by first | (with_reducible assumption) | assumption);obtain ⟨ad376, e376, hx376_0, hx376_1, hx376_2, hx376_3⟩ := at_T60 HR2.out x13_2 p376 q376;have hw376_3 := hx376_3;have hw376_2 := hx376_2;have hw376_1 := hx376_1;have hw376_0 := hx376_0;obtain rfl : ad369 = ad376 := (by injection e376);replace hx376_0 := (HB.out.cell (World.block_lt_of_cell? w _ hx376_0)).trans hx376_0;replace hx376_1 := (HB.out.cell (World.block_lt_of_cell? w _ hx376_1)).trans hx376_1;replace hx376_2 := (HB.out.cell (World.block_lt_of_cell? w _ hx376_2)).trans hx376_2;replace hx376_3 := (HB.out.cell (World.block_lt_of_cell? w _ hx376_3)).trans hx376_3;replace p376 := eq_true p376;replace q376 := eq_true q376
          refine start_ (n := 18) (S := fun w' => w'.cell? (ad369.add ((x13_2).toNat * 4)) = some (.string ((rd_T60 l2 x13_2).f0)) ∧ w'.cell? ⟨(ad369.add ((x13_2).toNat * 4)).block, (ad369.add ((x13_2).toNat * 4)).off + 1, none⟩ = some (.int .u64 ((rd_T60 l2 x13_2).f1)) ∧ w'.cell? ⟨(ad369.add ((x13_2).toNat * 4)).block, (ad369.add ((x13_2).toNat * 4)).off + 2, none⟩ = some (.int .u64 ((rd_T60 l2 x13_2).f2.f0)) ∧ w'.cell? ⟨(ad369.add ((x13_2).toNat * 4)).block, (ad369.add ((x13_2).toNat * 4)).off + 3, none⟩ = some (.int .u64 ((rd_T60 l2 x13_2).f2.f1)) ∧ w'.cell? (ad369.add ((x13_2).toNat * 4)) = some (.string ((rd_T60 l2 x13_2).f0)) ∧ w'.cell? ⟨(ad369.add ((x13_2).toNat * 4)).block, (ad369.add ((x13_2).toNat * 4)).off + 1, none⟩ = some (.int .u64 ((rd_T60 l2 x13_2).f1)) ∧ w'.cell? ⟨(ad369.add ((x13_2).toNat * 4)).block, (ad369.add ((x13_2).toNat * 4)).off + 2, none⟩ = some (.int .u64 ((rd_T60 l2 x13_2).f2.f0)) ∧ w'.cell? ⟨(ad369.add ((x13_2).toNat * 4)).block, (ad369.add ((x13_2).toNat * 4)).off + 3, none⟩ = some (.int .u64 ((rd_T60 l2 x13_2).f2.f1))) (ds := []) #[false, false, false, false, false, false, false, false, false, false, false, false, false, false, false, false, false, false] (by kernel_rfl) rfl rfl ⟨((HB.out.cell (World.block_lt_of_cell? w _ hw369_0)).trans hw369_0), ((HB.out.cell (World.block_lt_of_cell? w _ hw369_1)).trans hw369_1), ((HB.out.cell (World.block_lt_of_cell? w _ hw369_2)).trans hw369_2), ((HB.out.cell (World.block_lt_of_cell? w _ hw369_3)).trans hw369_3), ((HB.out.cell (World.block_lt_of_cell? w _ hw376_0)).trans hw376_0), ((HB.out.cell (World.block_lt_of_cell? w _ hw376_1)).trans hw376_1), ((HB.out.cell (World.block_lt_of_cell? w _ hw376_2)).trans hw376_2), ((HB.out.cell (World.block_lt_of_cell? w _ hw376_3)).trans hw376_3)⟩ (fun hHeld => ?_); refine with_tabW r14_Joined.tab10 r14_Joined.bits10 (fun HT_ HW_ => ?_)
          generalize wr.drew = w28 at HO_10 HO_11 BK354 HB hx369_0 hx369_1 hx369_2 hx369_3 hx376_0 hx376_1 hx376_2 hx376_3 hHeld ⊢
          refine pu 0 ?_
          refine pu 1 ?_
          refine pu 2 ?_
          refine pu 3 ?_
          refine pu 4 ?_
          refine pu 8 ?_
          refine pu 9 ?_
          refine pu 10 ?_
          refine pu 11 ?_
          refine pu 12 ?_
          refine ta 5 hHeld ?_
          refine ta 13 hHeld ?_
          refine join_ (σ := Value × Value × Value) 3 #[true, true, true, true, true, true, true, true, true, true, true, true, true, true, true, false, false, false] (fun s_ => [(48, s_.1), (49, s_.2.1), (56, s_.2.2)]) (fun s_ w' => (w'.cell? (ad369.add ((x13_2).toNat * 4)) = some (.string ((rd_T60 l2 x13_2).f0)) ∧ w'.cell? ⟨(ad369.add ((x13_2).toNat * 4)).block, (ad369.add ((x13_2).toNat * 4)).off + 1, none⟩ = some (.int .u64 ((rd_T60 l2 x13_2).f1)) ∧ w'.cell? ⟨(ad369.add ((x13_2).toNat * 4)).block, (ad369.add ((x13_2).toNat * 4)).off + 2, none⟩ = some (.int .u64 ((rd_T60 l2 x13_2).f2.f0)) ∧ w'.cell? ⟨(ad369.add ((x13_2).toNat * 4)).block, (ad369.add ((x13_2).toNat * 4)).off + 3, none⟩ = some (.int .u64 ((rd_T60 l2 x13_2).f2.f1)) ∧ w'.cell? (ad369.add ((x13_2).toNat * 4)) = some (.string ((rd_T60 l2 x13_2).f0)) ∧ w'.cell? ⟨(ad369.add ((x13_2).toNat * 4)).block, (ad369.add ((x13_2).toNat * 4)).off + 1, none⟩ = some (.int .u64 ((rd_T60 l2 x13_2).f1)) ∧ w'.cell? ⟨(ad369.add ((x13_2).toNat * 4)).block, (ad369.add ((x13_2).toNat * 4)).off + 2, none⟩ = some (.int .u64 ((rd_T60 l2 x13_2).f2.f0)) ∧ w'.cell? ⟨(ad369.add ((x13_2).toNat * 4)).block, (ad369.add ((x13_2).toNat * 4)).off + 3, none⟩ = some (.int .u64 ((rd_T60 l2 x13_2).f2.f1))) ∧ (Kd.R Kd.string 9 w' w.heap.size (fun k_ => some k_ ≠ (s_.2.1 : Value).ownBlock) s_.1 y370) ∧ (Kd.R Kd.string 9 w' w.heap.size (fun k_ => some k_ ≠ (s_.1 : Value).ownBlock) s_.2.1 y373) ∧ (Kd.R k50 50 w' w.heap.size (fun k_ => some k_ ≠ (.slice Ao27 x11_2.length co27 : Value).ownBlock) s_.2.2 y377) ∧ (Kd.R k50 50 w' w.heap.size (fun k_ => some k_ ≠ (s_.2.2 : Value).ownBlock) (.slice Ao27 x11_2.length co27) x11_2) ∧ (w'.heap[gb354]? = some (.cells #[.int .u64 a0_0, .int .u64 a0_1] 24 (0, 0))) ∧ (Below w.heap.size w w')) ?_ ?_
          rotate_left
          ·intro hCont
           refine two_ (i := 6) (j := 14) (Ni := some 48) (Nj := some 56) #[true, true, true, true, true, true, true, false, true, true, true, true, true, true, false, false, false, false] #[true, true, true, true, true, true, false, false, true, true, true, true, true, true, true, false, false, false] rfl rfl rfl rfl (two_of HT_.out (by kernel_rfl)) (by decide) (by decide) (fun K hK => ?_) (fun K hK => ?_)
           ·skip
            refine Kd.R_lit_step Kd.string _ 9 ?hg (N := 48) ?hd (xs := ([(rd_T60 l2 x13_2).f0] : List ByteArray)) (inner := [.string ((rd_T60 l2 x13_2).f0)]) (ok := fun _ => True) (okp := fun _ => True) ?hr ?hp (fun _ hk => hk) trivial (Below.refl _ _) (Nat.le_refl _) (by simp) ?_; (case hd => rfl); (case hg => rfl); (case hr => first | (go_simp; done) | (go_simp; rfl)); (case hp => exact (Reps.one (show Kd.M Kd.string _ _ _ ((rd_T60 l2 x13_2).f0) [.string ((rd_T60 l2 x13_2).f0)] from rfl) (Reps.none _ _)))
            intro v371 w29 ho30 hb hg_ hnew_
            clear hg_ hnew_
            (first | rw [← Ny370.out] at ho30 | (simp only [Int.reduceToNat] at ho30; rw [← Ny370.out] at ho30))
            have n0_ := am (Kd.R_elder' (pr HO_10.out) (Kd.R_base ho30) hb);have n1_ := am (Kd.R_below (pr HO_11.out) hb);have n2_ := am (Kd.R_lower (Kd.R_new' ho30 (Kd.R_lt (pr HO_10.out))) (below_size (pb HB)));have n3_ := am (blk_below (pk BK354.out) hb);have n4_ := am (below_step (pb HB) hb);clear HO_10 HO_11 BK354 HB;have HO_10 := n0_;have HO_11 := n1_;have HO372 := n2_;have BK354 := n3_;have HB := n4_;clear n0_ n1_ n2_ n3_ n4_ hb ho30;obtain ⟨Ao32, co32, eo32⟩ := Kd.R_slice HO372.out
            (first | subst eo32 | (injection eo32 with f1_ f2_ f3_; have f4_ := f1_.symm; have f5_ := f3_.symm; clear f1_ f2_ f3_; subst f4_; subst f5_))
            refine hK.out _ _ ⟨((HB.out.cell (World.block_lt_of_cell? w _ hw369_0)).trans hw369_0), ((HB.out.cell (World.block_lt_of_cell? w _ hw369_1)).trans hw369_1), ((HB.out.cell (World.block_lt_of_cell? w _ hw369_2)).trans hw369_2), ((HB.out.cell (World.block_lt_of_cell? w _ hw369_3)).trans hw369_3), ((HB.out.cell (World.block_lt_of_cell? w _ hw376_0)).trans hw376_0), ((HB.out.cell (World.block_lt_of_cell? w _ hw376_1)).trans hw376_1), ((HB.out.cell (World.block_lt_of_cell? w _ hw376_2)).trans hw376_2), ((HB.out.cell (World.block_lt_of_cell? w _ hw376_3)).trans hw376_3)⟩ (fun hHeld => ?_)
            clear hK K
            refine nm ?_
            refine two_ (i := 7) (j := 14) (Ni := some 49) (Nj := some 56) #[true, true, true, true, true, true, true, true, true, true, true, true, true, true, false, false, false, false] #[true, true, true, true, true, true, true, false, true, true, true, true, true, true, true, false, false, false] rfl rfl rfl rfl (two_of HT_.out (by kernel_rfl)) (by decide) (by decide) (fun K hK => ?_) (fun K hK => ?_)
            ·skip
             refine Kd.R_append_rows_step Kd.string (w0 := w) w.heap.size (by rfl) (.tmp 42) (.tmp 48) 44 9 (.string ⟨#[]⟩) 16 rfl Try.underlying44 info9 rfl (by decide) (by omega) (.slice Ao26 x10_2.length co26) x10_2 y370 _ _ _ (fun k_ => some k_ ≠ (.slice Ao32 y370.length co32 : Value).ownBlock) (fun _ => False) rfl rfl ?aO ?aR (fun _ _ h => h) (fun _ h => h.elim) ?aF ?aB ?aS ?aL ?_
             (case aR => repeat (first | exact (Kd.R_reads' HO372.out).2.2 | (with_reducible refine Kd.C_alloc ?_ _) | (with_reducible refine Kd.C_drewN ?_ _) | (with_reducible refine Kd.C_drew ?_)))
             (case aB => exact (pb HB))
             (case aF => exact (fun k_ hk => Kd.fresh' (Kd.R_lt (pr HO372.out)) k_ hk))
             (case aO => exact (pr (Kd.R_mono HO_10.out (fun _ hk => hk.2))))
             (case aS => exact (below_size (pb HB)))
             (case aL => have := LMc24.out; omega)
             intro v374 w31 ho hb hg hat
             rw [← Ny373.out] at ho;have n0_ := am (Kd.R_over' (pr HO_11.out) (Kd.R_typed (pr HO_10.out)) (by decide) hg);have n1_ := am (blk_grown (g := gb354) (o := .cells #[.int .u64 a0_0, .int .u64 a0_1] 24 (0, 0)) (pk BK354.out) hg (Kd.R_ne HO_10.out BK354.out (by decide)));have n2_ := am (Kd.R_after (ok := (fun _ => True)) (pr HO372.out) hg hat);have n3_ := am (hb);have n4_ := am (ho);clear HO_11 BK354 HO372 HB HO_10;have HO_11 := n0_;have BK354 := n1_;have HO372 := n2_;have HB := n3_;have HO375 := n4_;clear n0_ n1_ n2_ n3_ n4_ ho hb hg hat
             refine hK.out _ _ ⟨((HB.out.cell (World.block_lt_of_cell? w _ hw369_0)).trans hw369_0), ((HB.out.cell (World.block_lt_of_cell? w _ hw369_1)).trans hw369_1), ((HB.out.cell (World.block_lt_of_cell? w _ hw369_2)).trans hw369_2), ((HB.out.cell (World.block_lt_of_cell? w _ hw369_3)).trans hw369_3), ((HB.out.cell (World.block_lt_of_cell? w _ hw376_0)).trans hw376_0), ((HB.out.cell (World.block_lt_of_cell? w _ hw376_1)).trans hw376_1), ((HB.out.cell (World.block_lt_of_cell? w _ hw376_2)).trans hw376_2), ((HB.out.cell (World.block_lt_of_cell? w _ hw376_3)).trans hw376_3)⟩ (fun hHeld => ?_)
             clear hK K
             refine nm ?_
             refine on1 14 (fun K hK => ?_)
             refine Kd.R_lit_step k50 _ 50 ?hg (N := 56) ?hd (xs := ([(⟨(rd_T60 l2 x13_2).f2.f0, (rd_T60 l2 x13_2).f2.f1⟩ : S50)] : List (S50))) (inner := [.int .u64 ((rd_T60 l2 x13_2).f2.f0), .int .u64 ((rd_T60 l2 x13_2).f2.f1)]) (ok := fun _ => True) (okp := fun _ => True) ?hr ?hp (fun _ hk => hk) trivial (Below.refl _ _) (Nat.le_refl _) (by simp) ?_; (case hd => rfl); (case hg => rfl); (case hr => first | (go_simp; done) | (go_simp; rfl)); (case hp => exact (Reps.c2 (show Kd.M k50 _ _ _ (⟨(rd_T60 l2 x13_2).f2.f0, (rd_T60 l2 x13_2).f2.f1⟩ : S50) [.int .u64 ((rd_T60 l2 x13_2).f2.f0), .int .u64 ((rd_T60 l2 x13_2).f2.f1)] from (k50_mkM _ _ _ (⟨(rd_T60 l2 x13_2).f2.f0, (rd_T60 l2 x13_2).f2.f1⟩ : S50) )) (Reps.none _ _)))
             intro v378 w33 ho34 hb hg_ hnew_
             clear hg_ hnew_
             (first | rw [← Ny377.out] at ho34 | (simp only [Int.reduceToNat] at ho34; rw [← Ny377.out] at ho34))
             have n0_ := am (Kd.R_elder' (pr HO_11.out) (Kd.R_base ho34) hb);have n1_ := am (Kd.R_below (pr HO372.out) hb);have n2_ := am (Kd.R_below (pr HO375.out) hb);have n3_ := am (Kd.R_lower (Kd.R_new' ho34 (Kd.R_lt (pr HO_11.out))) (below_size (pb HB)));have n4_ := am (blk_below (pk BK354.out) hb);have n5_ := am (below_step (pb HB) hb);clear HO_11 HO372 HO375 BK354 HB;have HO_11 := n0_;have HO372 := n1_;have HO375 := n2_;have HO379 := n3_;have BK354 := n4_;have HB := n5_;clear n0_ n1_ n2_ n3_ n4_ n5_ hb ho34
             refine hK.out _ _ ⟨((HB.out.cell (World.block_lt_of_cell? w _ hw369_0)).trans hw369_0), ((HB.out.cell (World.block_lt_of_cell? w _ hw369_1)).trans hw369_1), ((HB.out.cell (World.block_lt_of_cell? w _ hw369_2)).trans hw369_2), ((HB.out.cell (World.block_lt_of_cell? w _ hw369_3)).trans hw369_3), ((HB.out.cell (World.block_lt_of_cell? w _ hw376_0)).trans hw376_0), ((HB.out.cell (World.block_lt_of_cell? w _ hw376_1)).trans hw376_1), ((HB.out.cell (World.block_lt_of_cell? w _ hw376_2)).trans hw376_2), ((HB.out.cell (World.block_lt_of_cell? w _ hw376_3)).trans hw376_3)⟩ (fun hHeld => ?_)
             clear hK K
             refine nm ?_
             exact nj (hCont (.slice Ao32 y370.length co32, v374, v378) _ ⟨hHeld, (pr (Kd.R_mono HO372.out (fun _ hk => hk.2))), (pr HO375.out), (pr (Kd.R_mono HO379.out (fun _ hk => hk.2))), (pr (Kd.R_mono HO_11.out (fun _ hk => hk.2))), (pk BK354.out), (pb HB)⟩)
            ·skip
             refine Kd.R_lit_step k50 _ 50 ?hg (N := 56) ?hd (xs := ([(⟨(rd_T60 l2 x13_2).f2.f0, (rd_T60 l2 x13_2).f2.f1⟩ : S50)] : List (S50))) (inner := [.int .u64 ((rd_T60 l2 x13_2).f2.f0), .int .u64 ((rd_T60 l2 x13_2).f2.f1)]) (ok := fun _ => True) (okp := fun _ => True) ?hr ?hp (fun _ hk => hk) trivial (Below.refl _ _) (Nat.le_refl _) (by simp) ?_; (case hd => rfl); (case hg => rfl); (case hr => first | (go_simp; done) | (go_simp; rfl)); (case hp => exact (Reps.c2 (show Kd.M k50 _ _ _ (⟨(rd_T60 l2 x13_2).f2.f0, (rd_T60 l2 x13_2).f2.f1⟩ : S50) [.int .u64 ((rd_T60 l2 x13_2).f2.f0), .int .u64 ((rd_T60 l2 x13_2).f2.f1)] from (k50_mkM _ _ _ (⟨(rd_T60 l2 x13_2).f2.f0, (rd_T60 l2 x13_2).f2.f1⟩ : S50) )) (Reps.none _ _)))
             intro v378 w31 ho32 hb hg_ hnew_
             clear hg_ hnew_
             (first | rw [← Ny377.out] at ho32 | (simp only [Int.reduceToNat] at ho32; rw [← Ny377.out] at ho32))
             have n0_ := am (Kd.R_below (pr HO_10.out) hb);have n1_ := am (Kd.R_elder' (pr HO_11.out) (Kd.R_base ho32) hb);have n2_ := am (Kd.R_below (pr HO372.out) hb);have n3_ := am (Kd.R_lower (Kd.R_new' ho32 (Kd.R_lt (pr HO_11.out))) (below_size (pb HB)));have n4_ := am (blk_below (pk BK354.out) hb);have n5_ := am (below_step (pb HB) hb);clear HO_10 HO_11 HO372 BK354 HB;have HO_10 := n0_;have HO_11 := n1_;have HO372 := n2_;have HO379 := n3_;have BK354 := n4_;have HB := n5_;clear n0_ n1_ n2_ n3_ n4_ n5_ hb ho32;obtain ⟨Ao34, co34, eo34⟩ := Kd.R_slice HO372.out
             (first | subst eo34 | (injection eo34 with f1_ f2_ f3_; have f4_ := f1_.symm; have f5_ := f3_.symm; clear f1_ f2_ f3_; subst f4_; subst f5_))
             refine hK.out _ _ ⟨((HB.out.cell (World.block_lt_of_cell? w _ hw369_0)).trans hw369_0), ((HB.out.cell (World.block_lt_of_cell? w _ hw369_1)).trans hw369_1), ((HB.out.cell (World.block_lt_of_cell? w _ hw369_2)).trans hw369_2), ((HB.out.cell (World.block_lt_of_cell? w _ hw369_3)).trans hw369_3), ((HB.out.cell (World.block_lt_of_cell? w _ hw376_0)).trans hw376_0), ((HB.out.cell (World.block_lt_of_cell? w _ hw376_1)).trans hw376_1), ((HB.out.cell (World.block_lt_of_cell? w _ hw376_2)).trans hw376_2), ((HB.out.cell (World.block_lt_of_cell? w _ hw376_3)).trans hw376_3)⟩ (fun hHeld => ?_)
             clear hK K
             refine nm ?_
             refine on1 7 (fun K hK => ?_)
             refine Kd.R_append_rows_step Kd.string (w0 := w) w.heap.size (by rfl) (.tmp 42) (.tmp 48) 44 9 (.string ⟨#[]⟩) 16 rfl Try.underlying44 info9 rfl (by decide) (by omega) (.slice Ao26 x10_2.length co26) x10_2 y370 _ _ _ (fun k_ => some k_ ≠ (.slice Ao34 y370.length co34 : Value).ownBlock) (fun _ => False) rfl rfl ?aO ?aR (fun _ _ h => h) (fun _ h => h.elim) ?aF ?aB ?aS ?aL ?_
             (case aR => repeat (first | exact (Kd.R_reads' HO372.out).2.2 | (with_reducible refine Kd.C_alloc ?_ _) | (with_reducible refine Kd.C_drewN ?_ _) | (with_reducible refine Kd.C_drew ?_)))
             (case aB => exact (pb HB))
             (case aF => exact (fun k_ hk => Kd.fresh' (Kd.R_lt (pr HO372.out)) k_ hk))
             (case aO => exact (pr (Kd.R_mono HO_10.out (fun _ hk => hk.2))))
             (case aS => exact (below_size (pb HB)))
             (case aL => have := LMc24.out; omega)
             intro v374 w33 ho hb hg hat
             rw [← Ny373.out] at ho;have n0_ := am (Kd.R_over' (pr HO_11.out) (Kd.R_typed (pr HO_10.out)) (by decide) hg);have n1_ := am (blk_grown (g := gb354) (o := .cells #[.int .u64 a0_0, .int .u64 a0_1] 24 (0, 0)) (pk BK354.out) hg (Kd.R_ne HO_10.out BK354.out (by decide)));have n2_ := am (Kd.R_after (ok := (fun _ => True)) (pr HO372.out) hg hat);have n3_ := am (Kd.R_over' (pr HO379.out) (Kd.R_typed (pr HO_10.out)) (by decide) hg);have n4_ := am (hb);have n5_ := am (ho);clear HO_11 BK354 HO372 HO379 HB HO_10;have HO_11 := n0_;have BK354 := n1_;have HO372 := n2_;have HO379 := n3_;have HB := n4_;have HO375 := n5_;clear n0_ n1_ n2_ n3_ n4_ n5_ ho hb hg hat
             refine hK.out _ _ ⟨((HB.out.cell (World.block_lt_of_cell? w _ hw369_0)).trans hw369_0), ((HB.out.cell (World.block_lt_of_cell? w _ hw369_1)).trans hw369_1), ((HB.out.cell (World.block_lt_of_cell? w _ hw369_2)).trans hw369_2), ((HB.out.cell (World.block_lt_of_cell? w _ hw369_3)).trans hw369_3), ((HB.out.cell (World.block_lt_of_cell? w _ hw376_0)).trans hw376_0), ((HB.out.cell (World.block_lt_of_cell? w _ hw376_1)).trans hw376_1), ((HB.out.cell (World.block_lt_of_cell? w _ hw376_2)).trans hw376_2), ((HB.out.cell (World.block_lt_of_cell? w _ hw376_3)).trans hw376_3)⟩ (fun hHeld => ?_)
             clear hK K
             refine nm ?_
             exact nj (hCont (.slice Ao34 y370.length co34, v374, v378) _ ⟨hHeld, (pr (Kd.R_mono HO372.out (fun _ hk => hk.2))), (pr HO375.out), (pr (Kd.R_mono HO379.out (fun _ hk => hk.2))), (pr (Kd.R_mono HO_11.out (fun _ hk => hk.2))), (pk BK354.out), (pb HB)⟩)
           ·skip
            refine Kd.R_lit_step k50 _ 50 ?hg (N := 56) ?hd (xs := ([(⟨(rd_T60 l2 x13_2).f2.f0, (rd_T60 l2 x13_2).f2.f1⟩ : S50)] : List (S50))) (inner := [.int .u64 ((rd_T60 l2 x13_2).f2.f0), .int .u64 ((rd_T60 l2 x13_2).f2.f1)]) (ok := fun _ => True) (okp := fun _ => True) ?hr ?hp (fun _ hk => hk) trivial (Below.refl _ _) (Nat.le_refl _) (by simp) ?_; (case hd => rfl); (case hg => rfl); (case hr => first | (go_simp; done) | (go_simp; rfl)); (case hp => exact (Reps.c2 (show Kd.M k50 _ _ _ (⟨(rd_T60 l2 x13_2).f2.f0, (rd_T60 l2 x13_2).f2.f1⟩ : S50) [.int .u64 ((rd_T60 l2 x13_2).f2.f0), .int .u64 ((rd_T60 l2 x13_2).f2.f1)] from (k50_mkM _ _ _ (⟨(rd_T60 l2 x13_2).f2.f0, (rd_T60 l2 x13_2).f2.f1⟩ : S50) )) (Reps.none _ _)))
            intro v378 w29 ho30 hb hg_ hnew_
            clear hg_ hnew_
            (first | rw [← Ny377.out] at ho30 | (simp only [Int.reduceToNat] at ho30; rw [← Ny377.out] at ho30))
            have n0_ := am (Kd.R_below (pr HO_10.out) hb);have n1_ := am (Kd.R_elder' (pr HO_11.out) (Kd.R_base ho30) hb);have n2_ := am (Kd.R_lower (Kd.R_new' ho30 (Kd.R_lt (pr HO_11.out))) (below_size (pb HB)));have n3_ := am (blk_below (pk BK354.out) hb);have n4_ := am (below_step (pb HB) hb);clear HO_10 HO_11 BK354 HB;have HO_10 := n0_;have HO_11 := n1_;have HO379 := n2_;have BK354 := n3_;have HB := n4_;clear n0_ n1_ n2_ n3_ n4_ hb ho30
            refine hK.out _ _ ⟨((HB.out.cell (World.block_lt_of_cell? w _ hw369_0)).trans hw369_0), ((HB.out.cell (World.block_lt_of_cell? w _ hw369_1)).trans hw369_1), ((HB.out.cell (World.block_lt_of_cell? w _ hw369_2)).trans hw369_2), ((HB.out.cell (World.block_lt_of_cell? w _ hw369_3)).trans hw369_3), ((HB.out.cell (World.block_lt_of_cell? w _ hw376_0)).trans hw376_0), ((HB.out.cell (World.block_lt_of_cell? w _ hw376_1)).trans hw376_1), ((HB.out.cell (World.block_lt_of_cell? w _ hw376_2)).trans hw376_2), ((HB.out.cell (World.block_lt_of_cell? w _ hw376_3)).trans hw376_3)⟩ (fun hHeld => ?_)
            clear hK K
            refine nm ?_
            refine on1 6 (fun K hK => ?_)
            refine Kd.R_lit_step Kd.string _ 9 ?hg (N := 48) ?hd (xs := ([(rd_T60 l2 x13_2).f0] : List ByteArray)) (inner := [.string ((rd_T60 l2 x13_2).f0)]) (ok := fun _ => True) (okp := fun _ => True) ?hr ?hp (fun _ hk => hk) trivial (Below.refl _ _) (Nat.le_refl _) (by simp) ?_; (case hd => rfl); (case hg => rfl); (case hr => first | (go_simp; done) | (go_simp; rfl)); (case hp => exact (Reps.one (show Kd.M Kd.string _ _ _ ((rd_T60 l2 x13_2).f0) [.string ((rd_T60 l2 x13_2).f0)] from rfl) (Reps.none _ _)))
            intro v371 w31 ho32 hb hg_ hnew_
            clear hg_ hnew_
            (first | rw [← Ny370.out] at ho32 | (simp only [Int.reduceToNat] at ho32; rw [← Ny370.out] at ho32))
            have n0_ := am (Kd.R_elder' (pr HO_10.out) (Kd.R_base ho32) hb);have n1_ := am (Kd.R_below (pr HO_11.out) hb);have n2_ := am (Kd.R_below (pr HO379.out) hb);have n3_ := am (Kd.R_lower (Kd.R_new' ho32 (Kd.R_lt (pr HO_10.out))) (below_size (pb HB)));have n4_ := am (blk_below (pk BK354.out) hb);have n5_ := am (below_step (pb HB) hb);clear HO_10 HO_11 HO379 BK354 HB;have HO_10 := n0_;have HO_11 := n1_;have HO379 := n2_;have HO372 := n3_;have BK354 := n4_;have HB := n5_;clear n0_ n1_ n2_ n3_ n4_ n5_ hb ho32;obtain ⟨Ao34, co34, eo34⟩ := Kd.R_slice HO372.out
            (first | subst eo34 | (injection eo34 with f1_ f2_ f3_; have f4_ := f1_.symm; have f5_ := f3_.symm; clear f1_ f2_ f3_; subst f4_; subst f5_))
            refine hK.out _ _ ⟨((HB.out.cell (World.block_lt_of_cell? w _ hw369_0)).trans hw369_0), ((HB.out.cell (World.block_lt_of_cell? w _ hw369_1)).trans hw369_1), ((HB.out.cell (World.block_lt_of_cell? w _ hw369_2)).trans hw369_2), ((HB.out.cell (World.block_lt_of_cell? w _ hw369_3)).trans hw369_3), ((HB.out.cell (World.block_lt_of_cell? w _ hw376_0)).trans hw376_0), ((HB.out.cell (World.block_lt_of_cell? w _ hw376_1)).trans hw376_1), ((HB.out.cell (World.block_lt_of_cell? w _ hw376_2)).trans hw376_2), ((HB.out.cell (World.block_lt_of_cell? w _ hw376_3)).trans hw376_3)⟩ (fun hHeld => ?_)
            clear hK K
            refine nm ?_
            refine on1 7 (fun K hK => ?_)
            refine Kd.R_append_rows_step Kd.string (w0 := w) w.heap.size (by rfl) (.tmp 42) (.tmp 48) 44 9 (.string ⟨#[]⟩) 16 rfl Try.underlying44 info9 rfl (by decide) (by omega) (.slice Ao26 x10_2.length co26) x10_2 y370 _ _ _ (fun k_ => some k_ ≠ (.slice Ao34 y370.length co34 : Value).ownBlock) (fun _ => False) rfl rfl ?aO ?aR (fun _ _ h => h) (fun _ h => h.elim) ?aF ?aB ?aS ?aL ?_
            (case aR => repeat (first | exact (Kd.R_reads' HO372.out).2.2 | (with_reducible refine Kd.C_alloc ?_ _) | (with_reducible refine Kd.C_drewN ?_ _) | (with_reducible refine Kd.C_drew ?_)))
            (case aB => exact (pb HB))
            (case aF => exact (fun k_ hk => Kd.fresh' (Kd.R_lt (pr HO372.out)) k_ hk))
            (case aO => exact (pr (Kd.R_mono HO_10.out (fun _ hk => hk.2))))
            (case aS => exact (below_size (pb HB)))
            (case aL => have := LMc24.out; omega)
            intro v374 w33 ho hb hg hat
            rw [← Ny373.out] at ho;have n0_ := am (Kd.R_over' (pr HO_11.out) (Kd.R_typed (pr HO_10.out)) (by decide) hg);have n1_ := am (blk_grown (g := gb354) (o := .cells #[.int .u64 a0_0, .int .u64 a0_1] 24 (0, 0)) (pk BK354.out) hg (Kd.R_ne HO_10.out BK354.out (by decide)));have n2_ := am (Kd.R_over' (pr HO379.out) (Kd.R_typed (pr HO_10.out)) (by decide) hg);have n3_ := am (Kd.R_after (ok := (fun _ => True)) (pr HO372.out) hg hat);have n4_ := am (hb);have n5_ := am (ho);clear HO_11 BK354 HO379 HO372 HB HO_10;have HO_11 := n0_;have BK354 := n1_;have HO379 := n2_;have HO372 := n3_;have HB := n4_;have HO375 := n5_;clear n0_ n1_ n2_ n3_ n4_ n5_ ho hb hg hat
            refine hK.out _ _ ⟨((HB.out.cell (World.block_lt_of_cell? w _ hw369_0)).trans hw369_0), ((HB.out.cell (World.block_lt_of_cell? w _ hw369_1)).trans hw369_1), ((HB.out.cell (World.block_lt_of_cell? w _ hw369_2)).trans hw369_2), ((HB.out.cell (World.block_lt_of_cell? w _ hw369_3)).trans hw369_3), ((HB.out.cell (World.block_lt_of_cell? w _ hw376_0)).trans hw376_0), ((HB.out.cell (World.block_lt_of_cell? w _ hw376_1)).trans hw376_1), ((HB.out.cell (World.block_lt_of_cell? w _ hw376_2)).trans hw376_2), ((HB.out.cell (World.block_lt_of_cell? w _ hw376_3)).trans hw376_3)⟩ (fun hHeld => ?_)
            clear hK K
            refine nm ?_
            exact nj (hCont (.slice Ao34 y370.length co34, v374, v378) _ ⟨hHeld, (pr (Kd.R_mono HO372.out (fun _ hk => hk.2))), (pr HO375.out), (pr (Kd.R_mono HO379.out (fun _ hk => hk.2))), (pr (Kd.R_mono HO_11.out (fun _ hk => hk.2))), (pk BK354.out), (pb HB)⟩)
          rintro ⟨v371, v374, v378⟩ w35 ⟨hS_, h0_, h1_, h2_, h3_, h4_, h5_⟩
          have HO372 : Aside0 (Kd.R Kd.string 9 w35 w.heap.size (fun k_ => some k_ ≠ (v374 : Value).ownBlock) v371 y370) := ⟨h0_⟩;have HO375 : Aside0 (Kd.R Kd.string 9 w35 w.heap.size (fun k_ => some k_ ≠ (v371 : Value).ownBlock) v374 y373) := ⟨h1_⟩;have HO379 : Aside0 (Kd.R k50 50 w35 w.heap.size (fun k_ => some k_ ≠ (.slice Ao27 x11_2.length co27 : Value).ownBlock) v378 y377) := ⟨h2_⟩;replace HO_11 : Aside0 (Kd.R k50 50 w35 w.heap.size (fun k_ => some k_ ≠ (v378 : Value).ownBlock) (.slice Ao27 x11_2.length co27) x11_2) := ⟨h3_⟩;replace BK354 : Aside0 (w35.heap[gb354]? = some (.cells #[.int .u64 a0_0, .int .u64 a0_1] 24 (0, 0))) := ⟨h4_⟩;replace HB : Aside0 (Below w.heap.size w w35) := ⟨h5_⟩;clear HO_10 h0_ h1_ h2_ h3_ h4_ h5_;have hHeld : w35.cell? (ad369.add ((x13_2).toNat * 4)) = some (.string ((rd_T60 l2 x13_2).f0)) ∧ w35.cell? ⟨(ad369.add ((x13_2).toNat * 4)).block, (ad369.add ((x13_2).toNat * 4)).off + 1, none⟩ = some (.int .u64 ((rd_T60 l2 x13_2).f1)) ∧ w35.cell? ⟨(ad369.add ((x13_2).toNat * 4)).block, (ad369.add ((x13_2).toNat * 4)).off + 2, none⟩ = some (.int .u64 ((rd_T60 l2 x13_2).f2.f0)) ∧ w35.cell? ⟨(ad369.add ((x13_2).toNat * 4)).block, (ad369.add ((x13_2).toNat * 4)).off + 3, none⟩ = some (.int .u64 ((rd_T60 l2 x13_2).f2.f1)) ∧ w35.cell? (ad369.add ((x13_2).toNat * 4)) = some (.string ((rd_T60 l2 x13_2).f0)) ∧ w35.cell? ⟨(ad369.add ((x13_2).toNat * 4)).block, (ad369.add ((x13_2).toNat * 4)).off + 1, none⟩ = some (.int .u64 ((rd_T60 l2 x13_2).f1)) ∧ w35.cell? ⟨(ad369.add ((x13_2).toNat * 4)).block, (ad369.add ((x13_2).toNat * 4)).off + 2, none⟩ = some (.int .u64 ((rd_T60 l2 x13_2).f2.f0)) ∧ w35.cell? ⟨(ad369.add ((x13_2).toNat * 4)).block, (ad369.add ((x13_2).toNat * 4)).off + 3, none⟩ = some (.int .u64 ((rd_T60 l2 x13_2).f2.f1)) := hS_;obtain ⟨Ao37, co37, eo37⟩ := Kd.R_slice HO379.out
          (first | subst eo37 | (injection eo37 with f1_ f2_ f3_; have f4_ := f1_.symm; have f5_ := f3_.symm; clear f1_ f2_ f3_; subst f4_; subst f5_))
          refine norm_ (a' := ?_) ?_ ?_
          rotate_left
          ·simp only [putAll, Act.put, List.setIfInBounds_toArray, List.set_cons_zero, List.set_cons_succ]
           rfl
          refine on1 15 (fun K hK => ?_)
          refine Kd.R_append_rows_step k50 (w0 := w) w.heap.size (by rfl) (.tmp 50) (.tmp 56) 45 50 (.agg #[(.int .u64 0), (.int .u64 0)]) 16 rfl Try.underlying45 info50 rfl (by decide) (by omega) (.slice Ao27 x11_2.length co27) x11_2 y377 _ _ _ (fun k_ => some k_ ≠ (.slice Ao37 y377.length co37 : Value).ownBlock) (fun _ => False) rfl rfl ?aO ?aR (fun _ _ h => h) (fun _ h => h.elim) ?aF ?aB ?aS ?aL ?_
          (case aR => repeat (first | exact (Kd.R_reads' HO379.out).2.2 | (with_reducible refine Kd.C_alloc ?_ _) | (with_reducible refine Kd.C_drewN ?_ _) | (with_reducible refine Kd.C_drew ?_)))
          (case aB => exact (pb HB))
          (case aF => exact (fun k_ hk => Kd.fresh' (Kd.R_lt (pr HO379.out)) k_ hk))
          (case aO => exact (pr HO_11.out))
          (case aS => exact (below_size (pb HB)))
          (case aL => have := LMc25.out; omega)
          intro v381 w36 ho hb hg hat
          rw [← Ny380.out] at ho;have n0_ := am (blk_grown (g := gb354) (o := .cells #[.int .u64 a0_0, .int .u64 a0_1] 24 (0, 0)) (pk BK354.out) hg (Kd.R_ne HO_11.out BK354.out (by decide)));have n1_ := am (Kd.R_over' (pr HO372.out) (Kd.R_typed (pr HO_11.out)) (by decide) hg);have n2_ := am (Kd.R_over' (pr HO375.out) (Kd.R_typed (pr HO_11.out)) (by decide) hg);have n3_ := am (Kd.R_after (ok := (fun _ => True)) (pr (Kd.R_mono HO379.out (fun _ hk => ⟨trivial, hk⟩))) hg hat);have n4_ := am (hb);have n5_ := am (ho);clear BK354 HO372 HO375 HO379 HB HO_11;have BK354 := n0_;have HO372 := n1_;have HO375 := n2_;have HO379 := n3_;have HB := n4_;have HO382 := n5_;clear n0_ n1_ n2_ n3_ n4_ n5_ ho hb hg hat
          refine hK.out _ _ ⟨((HB.out.cell (World.block_lt_of_cell? w _ hw369_0)).trans hw369_0), ((HB.out.cell (World.block_lt_of_cell? w _ hw369_1)).trans hw369_1), ((HB.out.cell (World.block_lt_of_cell? w _ hw369_2)).trans hw369_2), ((HB.out.cell (World.block_lt_of_cell? w _ hw369_3)).trans hw369_3), ((HB.out.cell (World.block_lt_of_cell? w _ hw376_0)).trans hw376_0), ((HB.out.cell (World.block_lt_of_cell? w _ hw376_1)).trans hw376_1), ((HB.out.cell (World.block_lt_of_cell? w _ hw376_2)).trans hw376_2), ((HB.out.cell (World.block_lt_of_cell? w _ hw376_3)).trans hw376_3)⟩ (fun hHeld => ?_)
          clear hK K
          refine nm ?_
          refine pu 16 ?_
          refine pu 17 ?_
          refine done_ (done_of HT_.out (by kernel_rfl)) ?_
          try go_wp2
          go_roundg k2
          case measure => have := HK1.out; have := HK2.out; omega
          case rel => exact ⟨(y373), (y380), (wrap64 (x13_2 + 1)), (by first | rfl | (simp; done) | (simp [*]; done)), H', ⟨by have := HK1.out; have := HK2.out; omega⟩, ⟨by refine pr ?_; exact Kd.R_mono HO375.out (fun _ hk => trivial)⟩, ⟨by refine pr ?_; exact Kd.R_mono HO382.out (fun _ hk => trivial)⟩, ⟨pk BK354.out⟩, ⟨pb HB⟩⟩
         ·rw [if_neg c25] at H;exact absurd H (by simp)
        ·rw [if_neg c24] at H;exact absurd H (by simp)
       ·rw [if_neg c23] at H;exact absurd H (by simp)
      ·rw [if_neg c22] at H;have c22b0 : decide (x13_2 < (l2.length : Int)) = false := decide_eq_false c22;clear c22;replace H := Option.bind_eq_some_iff.mp H;obtain ⟨⟨t383, t386⟩, A380, H⟩ := H
       try dsimp only at H
       have A38 := am A380;clear A380
       simp only [Option.some.injEq, Prod.mk.injEq] at H
       obtain ⟨rfl, rfl⟩ := H;obtain ⟨hcz39_0, hcz39_1, hfz39_0, hfz39_1⟩ := g2 BK354;obtain ⟨Ao40, co40, eo40⟩ := Kd.R_slice HO_10.out;subst eo40;obtain ⟨Ao41, co41, eo41⟩ := Kd.R_slice HO_11.out;subst eo41
       go_wp2_with (first | ((with_reducible refine gate_callee (f := 19) rfl ?_); refine gl (some 62) Try.func19 #[.agg #[.int .u64 a0_0, .int .u64 a0_1], .slice Ao40 x10_2.length co40, .slice Ao41 x11_2.length co41, .int .i64 a3] ?_; (with_reducible refine (r14_Model.calls k2 a0_0 a0_1 _ _ x10_2 _ _ x11_2 a3 t383 t386 _ ?side1 ?side2 ?side3 ?side4 A38.out).mono ?_); (case side1 => repeat (first | exact (Kd.R_reads' HO_10.out).2.2 | (with_reducible refine Kd.C_alloc ?_ _) | (with_reducible refine Kd.C_drewN ?_ _) | (with_reducible refine Kd.C_drew ?_))); (case side2 => exact (Kd.R_reads' HO_10.out).2.1); (case side3 => repeat (first | exact (Kd.R_reads' HO_11.out).2.2 | (with_reducible refine Kd.C_alloc ?_ _) | (with_reducible refine Kd.C_drewN ?_ _) | (with_reducible refine Kd.C_drew ?_))); (case side4 => exact (Kd.R_reads' HO_11.out).2.1); rintro e w42 ⟨v384, rfl, ho0, hb⟩; refine ⟨_, rfl, ?_⟩; replace HO_10 := am (Kd.R_below (pr HO_10.out) hb); replace HO_11 := am (Kd.R_below (pr HO_11.out) hb); have HO385 := am (Kd.R_lower ho0 (below_size (pb HB))); replace BK354 := am (blk_below (pk BK354.out) hb); replace HB := am (below_step (pb HB) hb); (try clear hb); (try clear hb2); (try clear hk); (try clear hi); (try clear ho0)))
       go_ret2
       exact ⟨_, by first | rfl | (simp [errW_none, errW_some] <;> rfl) | (simp [*, errW_none, errW_some] <;> rfl), by refine pr ?_; exact HO385.out, pb HB⟩
end Go.Proofs.Ytmfffbafldbihaa.H
