import Derived.Test.YtmfffbafldbihaaHx0
import Derived.Test.YtmfffbafldbihaaHx16
import Derived.Test.YtmfffbafldbihaaHx17
namespace Go.Proofs.Ytmfffbafldbihaa.H
open Go.RowKit Go.Proofs.YtmfffbafldbihaaW.PrintWords Go.Proofs.YtmfffbafldbihaaW.PrintLast Go.Proofs.YtmfffbafldbihaaW.PrintMore Go.Proofs.YtmfffbafldbihaaW.Sq
attribute [local go_sem] max2_int min2_int max_two min_two max_three min_three max_four min_four
set_option linter.unusedVariables false
set_option linter.unusedSimpArgs false

mutual
def r14_Model.l0 : Nat → List ByteArray → List (S50) → Int → List (S60) → Int → Int → Int → Option ((List (S60)) × Bool)
 | 0, _, _, _, _, _, _, _ => none
 | k + 1, x1, x2, x3, x10, x11, x306000, x306001 => if x11 < (x1.length : Int) then (if 0 ≤ x11 then ((r05_Sum.f k x306000 x306001 (rdOf ByteArray.empty x1 x11)).bind fun t311 => (if x11 < (x2.length : Int) then (r14_Model.l1 k x1 x2 x3 x10 x11 0 x306000 x306001 (rdOf ByteArray.empty x1 x11) t311 ((rd_T50 x2 x11).f0) ((rd_T50 x2 x11).f1)) else (none))) else (none)) else (if (x10.length : Int) > x3 then (if 0 ≤ x3 then (if x3 ≤ (x10.length : Int) then (some ((x10.take (x3 : Int).toNat), true)) else (none)) else (none)) else (some (x10, true)))
def r14_Model.j2 : Nat → List ByteArray → List (S50) → Int → List (S60) → Int → Int → Int → Int → ByteArray → Int → Int → Int → Option ((List (S60)) × Bool)
 | 0, _, _, _, _, _, _, _, _, _, _, _, _ => none
 | k + 1, x1, x2, x3, x10, x11, x13, x306000, x306001, x314000, x314001, x314002, x314003 => if x13 < (x10.length : Int) then (if 0 ≤ x13 then (r14_Model.j3 k x1 x2 x3 x10 x11 x13 (((rd_T60 x10 x13).f0).toList == x314000.toList) x306000 x306001 x314000 x314001 x314002 x314003) else (none)) else (r14_Model.j3 k x1 x2 x3 x10 x11 x13 false x306000 x306001 x314000 x314001 x314002 x314003)
def r14_Model.j3 : Nat → List ByteArray → List (S50) → Int → List (S60) → Int → Int → Bool → Int → Int → ByteArray → Int → Int → Int → Option ((List (S60)) × Bool)
 | 0, _, _, _, _, _, _, _, _, _, _, _, _, _ => none
 | k + 1, x1, x2, x3, x10, x11, x13, x14, x306000, x306001, x314000, x314001, x314002, x314003 => if x14 = true then (if 0 ≤ x13 then (if x13 < (x10.length : Int) then ((r01_Add.f ((rd_T60 x10 x13).f2.f0) ((rd_T60 x10 x13).f2.f1) x314002 x314003).bind fun bt318 => (if bt318.2.2 = true then (r14_Model.l0 k x1 x2 x3 (x10.set (x13 : Int).toNat (⟨(rd_T60 x10 x13).f0, (rd_T60 x10 x13).f1, (⟨bt318.1, bt318.2.1⟩ : S50)⟩ : S60)) (wrap64 (x11 + 1)) x306000 x306001) else (some (([] : List (S60)), false)))) else (none)) else (none)) else (if 0 ≤ x13 then (if x13 ≤ (x10.length : Int) then ((some (x10.take (x13 : Int).toNat : List (S60))).bind fun y323 => (if ([] : List (S60)).length + y323.length < 3518437208883 then ((some (([] : List (S60)) ++ y323 : List (S60))).bind fun y327 => (if y327.length < 3518437208883 then ((some (y327 ++ [(⟨x314000, x314001, (⟨x314002, x314003⟩ : S50)⟩ : S60)] : List (S60))).bind fun y330 => ((some (x10.drop (x13 : Int).toNat : List (S60))).bind fun y333 => (if y330.length + y333.length < 3518437208883 then (r14_Model.l0 k x1 x2 x3 (y330 ++ y333) (wrap64 (x11 + 1)) x306000 x306001) else (none)))) else (none))) else (none))) else (none)) else (none))
def r14_Model.l1 : Nat → List ByteArray → List (S50) → Int → List (S60) → Int → Int → Int → Int → ByteArray → Int → Int → Int → Option ((List (S60)) × Bool)
 | 0, _, _, _, _, _, _, _, _, _, _, _, _ => none
 | k + 1, x1, x2, x3, x10, x11, x13, x306000, x306001, x314000, x314001, x314002, x314003 => if x13 < (x10.length : Int) then (if 0 ≤ x13 then ((r14_Ahead.f ((rd_T60 x10 x13).f0) ((rd_T60 x10 x13).f1) ((rd_T60 x10 x13).f2.f0) ((rd_T60 x10 x13).f2.f1) x314000 x314001 x314002 x314003).bind fun t315 => (if t315 = true then (r14_Model.l1 k x1 x2 x3 x10 x11 (wrap64 (x13 + 1)) x306000 x306001 x314000 x314001 x314002 x314003) else (r14_Model.j2 k x1 x2 x3 x10 x11 x13 x306000 x306001 x314000 x314001 x314002 x314003))) else (none)) else (r14_Model.j2 k x1 x2 x3 x10 x11 x13 x306000 x306001 x314000 x314001 x314002 x314003)
end
def r14_Model.f (k : Nat) (a0_0 : Int) (a0_1 : Int) (l1 : List ByteArray) (l2 : List (S50)) (a3 : Int) : Option ((List (S60)) × Bool) := r14_Model.l0 k l1 l2 a3 ([] : List (S60)) 0 a0_0 a0_1
theorem r14_Model.mono_l : ∀ k, (∀ y0 y1 y2 y3 y4 y5 y6, LeO (r14_Model.l0 k y0 y1 y2 y3 y4 y5 y6) (r14_Model.l0 (k + 1) y0 y1 y2 y3 y4 y5 y6)) ∧ (∀ y0 y1 y2 y3 y4 y5 y6 y7 y8 y9 y10 y11, LeO (r14_Model.j2 k y0 y1 y2 y3 y4 y5 y6 y7 y8 y9 y10 y11) (r14_Model.j2 (k + 1) y0 y1 y2 y3 y4 y5 y6 y7 y8 y9 y10 y11)) ∧ (∀ y0 y1 y2 y3 y4 y5 y6 y7 y8 y9 y10 y11 y12, LeO (r14_Model.j3 k y0 y1 y2 y3 y4 y5 y6 y7 y8 y9 y10 y11 y12) (r14_Model.j3 (k + 1) y0 y1 y2 y3 y4 y5 y6 y7 y8 y9 y10 y11 y12)) ∧ (∀ y0 y1 y2 y3 y4 y5 y6 y7 y8 y9 y10 y11, LeO (r14_Model.l1 k y0 y1 y2 y3 y4 y5 y6 y7 y8 y9 y10 y11) (r14_Model.l1 (k + 1) y0 y1 y2 y3 y4 y5 y6 y7 y8 y9 y10 y11))
 | 0 => ⟨fun _ _ _ _ _ _ _ r h => by simp [r14_Model.l0] at h, fun _ _ _ _ _ _ _ _ _ _ _ _ r h => by simp [r14_Model.j2] at h, fun _ _ _ _ _ _ _ _ _ _ _ _ _ r h => by simp [r14_Model.j3] at h, fun _ _ _ _ _ _ _ _ _ _ _ _ r h => by simp [r14_Model.l1] at h⟩
 | k + 1 => by
  obtain ⟨ih0, ih1, ih2, ih3⟩ := r14_Model.mono_l k
  refine ⟨?_, ?_, ?_, ?_⟩
  ·intro y0 y1 y2 y3 y4 y5 y6
   unfold r14_Model.l0
   repeat' first
   | (with_reducible exact ih0 _ _ _ _ _ _ _)
   | (with_reducible exact ih1 _ _ _ _ _ _ _ _ _ _ _ _)
   | (with_reducible exact ih2 _ _ _ _ _ _ _ _ _ _ _ _ _)
   | (with_reducible exact ih3 _ _ _ _ _ _ _ _ _ _ _ _)
   | (with_reducible exact r05_Sum.mono _ _ _ _)
   | (with_reducible exact LeO.refl _)
   | (with_reducible exact LeO.none _)
   | (with_reducible refine LeO.ite ?_ ?_)
   | (with_reducible refine LeO.bind ?_ (fun _ => ?_))
  ·intro y0 y1 y2 y3 y4 y5 y6 y7 y8 y9 y10 y11
   unfold r14_Model.j2
   repeat' first
   | (with_reducible exact ih0 _ _ _ _ _ _ _)
   | (with_reducible exact ih1 _ _ _ _ _ _ _ _ _ _ _ _)
   | (with_reducible exact ih2 _ _ _ _ _ _ _ _ _ _ _ _ _)
   | (with_reducible exact ih3 _ _ _ _ _ _ _ _ _ _ _ _)
   | (with_reducible exact r05_Sum.mono _ _ _ _)
   | (with_reducible exact LeO.refl _)
   | (with_reducible exact LeO.none _)
   | (with_reducible refine LeO.ite ?_ ?_)
   | (with_reducible refine LeO.bind ?_ (fun _ => ?_))
  ·intro y0 y1 y2 y3 y4 y5 y6 y7 y8 y9 y10 y11 y12
   unfold r14_Model.j3
   repeat' first
   | (with_reducible exact ih0 _ _ _ _ _ _ _)
   | (with_reducible exact ih1 _ _ _ _ _ _ _ _ _ _ _ _)
   | (with_reducible exact ih2 _ _ _ _ _ _ _ _ _ _ _ _ _)
   | (with_reducible exact ih3 _ _ _ _ _ _ _ _ _ _ _ _)
   | (with_reducible exact r05_Sum.mono _ _ _ _)
   | (with_reducible exact LeO.refl _)
   | (with_reducible exact LeO.none _)
   | (with_reducible refine LeO.ite ?_ ?_)
   | (with_reducible refine LeO.bind ?_ (fun _ => ?_))
  ·intro y0 y1 y2 y3 y4 y5 y6 y7 y8 y9 y10 y11
   unfold r14_Model.l1
   repeat' first
   | (with_reducible exact ih0 _ _ _ _ _ _ _)
   | (with_reducible exact ih1 _ _ _ _ _ _ _ _ _ _ _ _)
   | (with_reducible exact ih2 _ _ _ _ _ _ _ _ _ _ _ _ _)
   | (with_reducible exact ih3 _ _ _ _ _ _ _ _ _ _ _ _)
   | (with_reducible exact r05_Sum.mono _ _ _ _)
   | (with_reducible exact LeO.refl _)
   | (with_reducible exact LeO.none _)
   | (with_reducible refine LeO.ite ?_ ?_)
   | (with_reducible refine LeO.bind ?_ (fun _ => ?_))
theorem r14_Model.mono : ∀ a0 a1 a2 a3 a4 k, LeO (r14_Model.f k a0 a1 a2 a3 a4) (r14_Model.f (k + 1) a0 a1 a2 a3 a4) := by
 intro a0 a1 a2 a3 a4 k
 obtain ⟨ih0, ih1, ih2, ih3⟩ := r14_Model.mono_l k
 unfold r14_Model.f
 repeat' first
   | (with_reducible exact ih0 _ _ _ _ _ _ _)
   | (with_reducible exact ih1 _ _ _ _ _ _ _ _ _ _ _ _)
   | (with_reducible exact ih2 _ _ _ _ _ _ _ _ _ _ _ _ _)
   | (with_reducible exact ih3 _ _ _ _ _ _ _ _ _ _ _ _)
   | (with_reducible exact r05_Sum.mono _ _ _ _)
   | (with_reducible exact LeO.refl _)
   | (with_reducible exact LeO.none _)
   | (with_reducible refine LeO.ite ?_ ?_)
   | (with_reducible refine LeO.bind ?_ (fun _ => ?_))
def r14_Model.T5 : Bool × List (List Nat × List Nat) := (true, [([], []), ([], []), ([0, 1], [0, 1]), ([2], [2]), ([], []), ([], []), ([], []), ([5, 6], [5, 6]), ([7], [7]), ([4, 8], [4, 8]), ([], []), ([], []), ([10, 11], [10, 11]), ([12], [12]), ([3, 9, 13], [3, 9, 13]), ([], []), ([15, 14, 9, 0, 1, 2, 3, 4, 5, 6, 7, 8, 9, 10, 11, 12, 13, 14, 15], [14, 15])])
def r14_Model.B5 : List Nat := [0, 0, 3, 7, 0, 0, 0, 96, 224, 496, 0, 0, 3072, 7168, 16383, 0, 65535]
theorem r14_Model.tab5 : rtab .any (opsOf Try.f19 5) = r14_Model.T5 := by kernel_rfl
theorem r14_Model.bits5 : waitsOk r14_Model.T5.2 r14_Model.B5 = true := by kernel_rfl
def r14_Model.T7 : Bool × List (List Nat × List Nat) := (true, [([], []), ([], []), ([1], [1]), ([0, 2], [0, 2]), ([3], [3]), ([4], [4]), ([4], [4]), ([5, 6, 4], [4, 5, 6]), ([7, 4], [4, 7]), ([4], [4]), ([8, 9, 4, 4], [4, 8, 9]), ([4, 10], [4, 10])])
def r14_Model.B7 : List Nat := [0, 0, 2, 7, 15, 31, 31, 127, 255, 31, 1023, 2047]
theorem r14_Model.tab7 : rtab .any (opsOf Try.f19 7) = r14_Model.T7 := by kernel_rfl
theorem r14_Model.bits7 : waitsOk r14_Model.T7.2 r14_Model.B7 = true := by kernel_rfl
def r14_Model.T9 : Bool × List (List Nat × List Nat) := (true, [([], []), ([], []), ([1], [1]), ([0, 2], [0, 2]), ([3], [3]), ([4], [4]), ([4], [4]), ([5, 6, 4], [4, 5, 6]), ([7, 4], [4, 7]), ([8, 4], [4, 8]), ([4], [4]), ([10, 4], [4, 10]), ([9, 11, 4], [4, 9, 11]), ([4, 12], [4, 12]), ([13, 4, 0, 1, 2, 3, 4, 5, 6, 7, 8, 9, 10, 11, 12, 13], [13])])
def r14_Model.B9 : List Nat := [0, 0, 2, 7, 15, 31, 31, 127, 255, 511, 31, 1055, 4095, 8191, 16383]
theorem r14_Model.tab9 : rtab .any (opsOf Try.f19 9) = r14_Model.T9 := by kernel_rfl
theorem r14_Model.bits9 : waitsOk r14_Model.T9.2 r14_Model.B9 = true := by kernel_rfl
def r14_Model.T11 : Bool × List (List Nat × List Nat) := (true, [([], []), ([], []), ([0, 1], [0, 1]), ([2], [2]), ([3], [3]), ([], []), ([5], [5]), ([4, 6], [4, 6]), ([7], [7]), ([8], [8]), ([8], [8]), ([], []), ([11, 9, 7, 0, 1, 2, 3, 4, 5, 6, 7, 8, 9, 11], [9, 11]), ([10, 12, 0, 1, 2, 3, 4, 5, 6, 7, 8, 9, 10, 11, 12], [10])])
def r14_Model.B11 : List Nat := [0, 0, 3, 7, 15, 0, 32, 127, 255, 511, 511, 0, 3071, 8191]
theorem r14_Model.tab11 : rtab .any (opsOf Try.f19 11) = r14_Model.T11 := by kernel_rfl
theorem r14_Model.bits11 : waitsOk r14_Model.T11.2 r14_Model.B11 = true := by kernel_rfl
set_option maxHeartbeats 8000000 in
set_option maxRecDepth 100000 in
theorem r14_Model.calls (k : Nat) (ap : Int) (aq : Int) (A1 : Option Addr) (c1 : Nat) (l1 : List ByteArray) (A2 : Option Addr) (c2 : Nat) (l2 : List (S50)) (a3 : Int) (r1 : List (S60)) (r2 : Bool) (w : World) (de : Kd.C Kd.string w A1 l1.length l1) (df : l1.length ≤ c1) (dg : Kd.C k50 w A2 l2.length l2) (dh : l2.length ≤ c2) (h : r14_Model.f k ap aq l1 l2 a3 = some (r1, r2)) :
  Calls Try.prog 19 #[.agg #[.int .u64 ap, .int .u64 aq], .slice A1 l1.length c1, .slice A2 l2.length c2, .int .i64 a3] w fun e w' => ∃ di : Value, e = .returned (.tuple #[di, .bool r2]) ∧ Kd.R k60 60 w' w.heap.size (fun _ => True) di r1 ∧ Below w.heap.size w w' := by
 have hu24 := Try.underlying24;have hu50 := Try.underlying50;have hu60 := Try.underlying60;have dj := am de;have fh := am df;clear de df;have d3 := am dg;have fi := am dh;clear dg dh;have HB := am (Below.refl w.heap.size w);have H : (r14_Model.l0 k l1 l2 a3 ([] : List (S60)) 0 ap aq) = some (r1, r2) := h;clear h;have H' := am H;clear H
 go_enter Try.func19, Try.ntmps19
 go_wp2_with (first | ((with_reducible refine gate_dst (N := 4) rfl ?_); refine be 4 #[.int .u64 ap, .int .u64 aq] 24 ?_; intro ay hg w5 hbox hb; have ag := am (hbox); have ep := gq hg HB; have eq := gq hg HB; replace HB := lb HB hb; clear hb hbox hg))
 go_loopg [10, 11] k (fun kq d4 d5 w' => ∃ (ad : List (S60)) (aa : Int), d5 = .int .i64 aa ∧ Aside0 (r14_Model.l0 kq l1 l2 a3 ad aa ap aq = some (r1, r2)) ∧ Aside0 (kq ≤ k) ∧ Aside0 (Kd.R k60 60 w' w.heap.size (fun _ => True) d4 ad) ∧ Aside0 (w'.heap[ay]? = some (.cells #[.int .u64 ap, .int .u64 aq] 24 (0, 0))) ∧ Aside0 (Below w.heap.size w w'))
 case atStart => exact ⟨(([] : List (S60))), (0), (by first | rfl | (simp; done) | (simp [*]; done)), H', ⟨Nat.le_refl _⟩, ⟨by first | exact Kd.R_nil _ _ _ _ _ | exact Kd.N_nil _ _ _ _ _ | exact Kd.V_nil _ _ _ _ _ | exact Kd.Q_nil _ _ _ _ _ | exact Kd.S_nil _ _ _ _ _⟩, ⟨pk ag.out⟩, ⟨pb HB⟩⟩
 case round =>
  clear H';(try clear c1);(try clear c2);(try clear p2);obtain ⟨ad, aa, rfl, HA, HK1, af, ag, HB⟩ := hrel
  cases gk with
  | zero => exact absurd HA.out (by simp [r14_Model.l0])
  | succ k1 =>
   have H := HA.out;clear HA
   simp only [r14_Model.l0] at H
   by_cases c6 : aa < (l1.length : Int)
   ·rw [if_pos c6] at H;have b3 : decide (aa < (l1.length : Int)) = true := decide_eq_true c6;clear c6
    by_cases c7 : 0 ≤ aa
    ·rw [if_pos c7] at H;have cf : decide (0 ≤ aa) = true := decide_eq_true c7;clear c7;replace H := Option.bind_eq_some_iff.mp H;obtain ⟨ao, dk, H⟩ := H
     try dsimp only at H
     have A8 := am dk;clear dk
     by_cases c9 : aa < (l2.length : Int)
     ·rw [if_pos c9] at H;have cg : decide (aa < (l2.length : Int)) = true := decide_eq_true c9;clear c9;have ch := am H;clear H
      try go_wp2
      replace af := am (Kd.R_drew af.out);replace ag := am (blk_drew ag.out);replace HB := am (below_drew1 HB.out);have bH : 0 ≤ (aa : Int) := of_decide_eq_true (by first | (with_reducible assumption) | assumption);have bI : aa < (l1.length : Int) := of_decide_eq_true (by first | (with_reducible assumption) | assumption);obtain ⟨bi, dp, aV⟩ := Kd.at_string dj.out aa bH bI;have aE := aV;cases dp;replace aV := (HB.out.cell (World.block_lt_of_cell? w _ aV)).trans aV;replace bH := eq_true bH;replace bI := eq_true bI;have bJ : 0 ≤ (aa : Int) := of_decide_eq_true (by first | (with_reducible assumption) | assumption);have bK : aa < (l1.length : Int) := of_decide_eq_true (by first | (with_reducible assumption) | assumption);obtain ⟨c_, dq, aW⟩ := Kd.at_string dj.out aa bJ bK;have aG := aW;obtain rfl : bi = c_ := (by injection dq);replace aW := (HB.out.cell (World.block_lt_of_cell? w _ aW)).trans aW;replace bJ := eq_true bJ;replace bK := eq_true bK;have bL : 0 ≤ (aa : Int) := of_decide_eq_true (by first | (with_reducible assumption) | assumption);have bM : aa < (l2.length : Int) := of_decide_eq_true (by first | (with_reducible assumption) | assumption);obtain ⟨a7, dr, aX, aY⟩ := at_T50 d3.out aa bL bM;have aH := aY;have aI := aX;cases dr;replace aX := (HB.out.cell (World.block_lt_of_cell? w _ aX)).trans aX;replace aY := (HB.out.cell (World.block_lt_of_cell? w _ aY)).trans aY;replace bL := eq_true bL;replace bM := eq_true bM
      refine start_ (n := 17) (S := fun w' => w'.cell? ⟨ay, 0, none⟩ = some (.int .u64 ap) ∧ w'.cell? ⟨ay, 1, none⟩ = some (.int .u64 aq) ∧ w'.cell? (bi.add (aa).toNat) = some (.string (rdOf ByteArray.empty l1 aa)) ∧ w'.cell? (bi.add (aa).toNat) = some (.string (rdOf ByteArray.empty l1 aa)) ∧ w'.cell? (a7.add ((aa).toNat * 2)) = some (.int .u64 ((rd_T50 l2 aa).f0)) ∧ w'.cell? ⟨(a7.add ((aa).toNat * 2)).block, (a7.add ((aa).toNat * 2)).off + 1, none⟩ = some (.int .u64 ((rd_T50 l2 aa).f1))) (ds := []) #[false, false, false, false, false, false, false, false, false, false, false, false, false, false, false, false, false] (by kernel_rfl) rfl rfl ⟨ce ag 0, ce ag 1, ((HB.out.cell (World.block_lt_of_cell? w _ aE)).trans aE), ((HB.out.cell (World.block_lt_of_cell? w _ aG)).trans aG), ((HB.out.cell (World.block_lt_of_cell? w _ aI)).trans aI), ((HB.out.cell (World.block_lt_of_cell? w _ aH)).trans aH)⟩ (fun hHeld => ?_); refine with_tabW r14_Model.tab5 r14_Model.bits5 (fun HT_ HW_ => ?_)
      generalize wr.drew = fj at af ag HB aV aW aX aY hHeld ⊢
      refine pu 0 ?_
      refine pu 1 ?_
      refine pu 2 ?_
      refine pu 5 ?_
      refine pu 6 ?_
      refine pu 7 ?_
      refine pu 10 ?_
      refine pu 11 ?_
      refine pu 12 ?_
      refine ta 3 hHeld ?_
      refine ta 4 hHeld ?_
      refine ta 8 hHeld ?_
      refine ta 13 hHeld ?_
      refine join_ (σ := Nat) 1 #[true, true, true, true, true, true, true, true, true, true, true, true, true, true, true, true, false] (fun s_ => [(33, .int .u64 ao), (12, .pointer (some ⟨s_, 0, none⟩)), (38, .agg #[.string (rdOf ByteArray.empty l1 aa), .int .u64 ao, .int .u64 ((rd_T50 l2 aa).f0), .int .u64 ((rd_T50 l2 aa).f1)])]) (fun s_ w' => (w'.cell? ⟨ay, 0, none⟩ = some (.int .u64 ap) ∧ w'.cell? ⟨ay, 1, none⟩ = some (.int .u64 aq) ∧ w'.cell? (bi.add (aa).toNat) = some (.string (rdOf ByteArray.empty l1 aa)) ∧ w'.cell? (bi.add (aa).toNat) = some (.string (rdOf ByteArray.empty l1 aa)) ∧ w'.cell? (a7.add ((aa).toNat * 2)) = some (.int .u64 ((rd_T50 l2 aa).f0)) ∧ w'.cell? ⟨(a7.add ((aa).toNat * 2)).block, (a7.add ((aa).toNat * 2)).off + 1, none⟩ = some (.int .u64 ((rd_T50 l2 aa).f1))) ∧ (Kd.R k60 60 w' w.heap.size (fun k_ => k_ ≠ s_) u10 ad) ∧ (w'.heap[ay]? = some (.cells #[.int .u64 ap, .int .u64 aq] 24 (0, 0))) ∧ (w'.heap[s_]? = some (.cells #[.string (⟨#[]⟩ : ByteArray), .int .u64 0, .int .u64 0, .int .u64 0] 60 (0, 0))) ∧ (w.heap.size ≤ s_) ∧ (w.heap.size ≤ s_) ∧ (ay ≠ s_) ∧ (s_ ≠ ay) ∧ (Below w.heap.size w w')) ?_ ?_
      rotate_left
      ·intro hCont
       refine two_ (i := 9) (j := 15) (Ni := some 33) (Nj := some 12) #[true, true, true, true, true, true, true, true, true, true, true, true, true, true, false, false, false] #[true, true, true, true, true, true, true, true, true, false, true, true, true, true, false, true, false] rfl rfl rfl rfl (two_of HT_.out (by kernel_rfl)) (by decide) (by decide) (fun K hK => ?_) (fun K hK => ?_)
       ·skip
        refine gs Try.func22 #[.agg #[.int .u64 ap, .int .u64 aq], .string (rdOf ByteArray.empty l1 aa)] ?_
        with_reducible refine (r05_Sum.calls k1 ap aq (rdOf ByteArray.empty l1 aa) ao _ A8.out).mono ?_
        rintro e d6 ⟨rfl, hb⟩
        refine ⟨_, rfl, ?_⟩
        replace af := rb af hb;replace ag := kb ag hb;replace HB := lb HB hb
        (try clear hb)
        (try clear hb2)
        (try clear hk)
        (try clear hi)
        refine hK.out _ _ ⟨ce ag 0, ce ag 1, ((HB.out.cell (World.block_lt_of_cell? w _ aE)).trans aE), ((HB.out.cell (World.block_lt_of_cell? w _ aG)).trans aG), ((HB.out.cell (World.block_lt_of_cell? w _ aI)).trans aI), ((HB.out.cell (World.block_lt_of_cell? w _ aH)).trans aH)⟩ (fun hHeld => ?_)
        clear hK K
        refine nm ?_
        refine pu 14 ?_
        refine on1 15 (fun K hK => ?_)
        refine bx 12 #[.string (⟨#[]⟩ : ByteArray), .int .u64 0, .int .u64 0, .int .u64 0] 60 ?_
        intro ah hg d7 hbox hb
        replace af := am (Kd.R_below (Kd.R_elderB (pr af.out) ah (Nat.le_of_eq hg.symm)) hb);have ae := am (hbox);have bh := gq hg HB;have bS := gq hg HB;replace HB := lb HB hb;obtain ⟨av, aD, -, -⟩ := pm hg ag;replace ag := kb ag hb;clear hb hbox hg
        refine hK.out _ _ ⟨ce ag 0, ce ag 1, ((HB.out.cell (World.block_lt_of_cell? w _ aE)).trans aE), ((HB.out.cell (World.block_lt_of_cell? w _ aG)).trans aG), ((HB.out.cell (World.block_lt_of_cell? w _ aI)).trans aI), ((HB.out.cell (World.block_lt_of_cell? w _ aH)).trans aH)⟩ (fun hHeld => ?_)
        clear hK K
        refine nm ?_
        exact nj (hCont (ah) _ ⟨hHeld, (pr (Kd.R_mono af.out (fun _ hk => hk.2))), (pk ag.out), (pk ae.out), bh.out, bS.out, av.out, aD.out, (pb HB)⟩)
       ·skip
        refine bx 12 #[.string (⟨#[]⟩ : ByteArray), .int .u64 0, .int .u64 0, .int .u64 0] 60 ?_
        intro ah hg d6 hbox hb
        replace af := am (Kd.R_below (Kd.R_elderB (pr af.out) ah (Nat.le_of_eq hg.symm)) hb);have ae := am (hbox);have bh := gq hg HB;have bS := gq hg HB;replace HB := lb HB hb;obtain ⟨av, aD, -, -⟩ := pm hg ag;replace ag := kb ag hb;clear hb hbox hg
        refine hK.out _ _ ⟨ce ag 0, ce ag 1, ((HB.out.cell (World.block_lt_of_cell? w _ aE)).trans aE), ((HB.out.cell (World.block_lt_of_cell? w _ aG)).trans aG), ((HB.out.cell (World.block_lt_of_cell? w _ aI)).trans aI), ((HB.out.cell (World.block_lt_of_cell? w _ aH)).trans aH)⟩ (fun hHeld => ?_)
        clear hK K
        refine nm ?_
        refine on1 9 (fun K hK => ?_)
        refine gs Try.func22 #[.agg #[.int .u64 ap, .int .u64 aq], .string (rdOf ByteArray.empty l1 aa)] ?_
        with_reducible refine (r05_Sum.calls k1 ap aq (rdOf ByteArray.empty l1 aa) ao _ A8.out).mono ?_
        rintro e d7 ⟨rfl, hb⟩
        refine ⟨_, rfl, ?_⟩
        replace af := rb af hb;replace ag := kb ag hb;replace ae := kb ae hb;replace HB := lb HB hb
        (try clear hb)
        (try clear hb2)
        (try clear hk)
        (try clear hi)
        refine hK.out _ _ ⟨ce ag 0, ce ag 1, ((HB.out.cell (World.block_lt_of_cell? w _ aE)).trans aE), ((HB.out.cell (World.block_lt_of_cell? w _ aG)).trans aG), ((HB.out.cell (World.block_lt_of_cell? w _ aI)).trans aI), ((HB.out.cell (World.block_lt_of_cell? w _ aH)).trans aH)⟩ (fun hHeld => ?_)
        clear hK K
        refine nm ?_
        refine pu 14 ?_
        exact nj (hCont (ah) _ ⟨hHeld, (pr (Kd.R_mono af.out (fun _ hk => hk.2))), (pk ag.out), (pk ae.out), bh.out, bS.out, av.out, aD.out, (pb HB)⟩)
      rintro ah bA ⟨hS_, bn, bo, bp, bq, br, bs, bu, bv⟩
      (try dsimp only at bn bo bp bq br bs bu bv);replace af := am bn;replace ag := am bo;have ae := am bp;have bh := am bq;have bS := am br;have av := am bs;have aD := am bu;replace HB := am bv;clear bn bo bp bq br bs bu bv;have hHeld : bA.cell? ⟨ay, 0, none⟩ = some (.int .u64 ap) ∧ bA.cell? ⟨ay, 1, none⟩ = some (.int .u64 aq) ∧ bA.cell? (bi.add (aa).toNat) = some (.string (rdOf ByteArray.empty l1 aa)) ∧ bA.cell? (bi.add (aa).toNat) = some (.string (rdOf ByteArray.empty l1 aa)) ∧ bA.cell? (a7.add ((aa).toNat * 2)) = some (.int .u64 ((rd_T50 l2 aa).f0)) ∧ bA.cell? ⟨(a7.add ((aa).toNat * 2)).block, (a7.add ((aa).toNat * 2)).off + 1, none⟩ = some (.int .u64 ((rd_T50 l2 aa).f1)) := hS_
      refine norm_ (a' := ?_) ?_ ?_
      rotate_left
      ·simp only [putAll, Act.put, List.setIfInBounds_toArray, List.set_cons_zero, List.set_cons_succ]
       rfl
      refine one_ (i := 16) (N := none) #[true, true, true, true, true, true, true, true, true, true, true, true, true, true, true, true, true] rfl rfl (one_of HT_.out (by kernel_rfl)) (by decide) (fun K hK => ?_)
      have eT : bA.cell? ⟨ah, 0, none⟩ = some (.string (⟨#[]⟩ : ByteArray)) := ce ae 0;have er := blk_frozen ae.out 0;have dF := av.out;have hms15_0 := aD.out;have eU : bA.cell? ⟨ah, 1, none⟩ = some (.int .u64 0) := ce ae 1;have es := blk_frozen ae.out 1;have dG := av.out;have hms16_0 := aD.out;have eV : bA.cell? ⟨ah, 2, none⟩ = some (.int .u64 0) := ce ae 2;have et := blk_frozen ae.out 2;have dH := av.out;have hms17_0 := aD.out;have eW : bA.cell? ⟨ah, 3, none⟩ = some (.int .u64 0) := ce ae 3;have eu := blk_frozen ae.out 3;have dI := av.out;have hms18_0 := aD.out
      refine skip_ (w1 := ?_) (by rfl) rfl ?_ ?_
      rotate_left
      ·go_simp
       rfl
      refine hK.out _ _ ⟨(q4 av.out hHeld.1), (q4 av.out hHeld.2.1), (q4 (al aE bh) hHeld.2.2.1), (q4 (al aG bh) hHeld.2.2.2.1), (q4 (al aI bh) hHeld.2.2.2.2.1), (q4 (al aH bh) hHeld.2.2.2.2.2)⟩ (fun hHeld => ?_)
      clear hK K
      refine done_ (done_of HT_.out (by kernel_rfl)) ?_
      go_upto_block 2 with (fail)
      go_cut [13] (fun cC wc => ∃ (kq : Nat) (ac : Int), cC = .int .i64 ac ∧ Aside0 (r14_Model.j2 kq l1 l2 a3 ad aa ac ap aq (rdOf ByteArray.empty l1 aa) ao ((rd_T50 l2 aa).f0) ((rd_T50 l2 aa).f1) = some (r1, r2)) ∧ Aside0 (kq ≤ k1) ∧ Aside0 (Kd.R k60 60 wc w.heap.size (fun k_ => k_ ≠ ah) u10 ad) ∧ Aside0 (wc.heap[ay]? = some (.cells #[.int .u64 ap, .int .u64 aq] 24 (0, 0))) ∧ Aside0 (wc.heap[ah]? = some (.cells #[.string (rdOf ByteArray.empty l1 aa), .int .u64 ao, .int .u64 ((rd_T50 l2 aa).f0), .int .u64 ((rd_T50 l2 aa).f1)] 60 (0, 0))) ∧ Aside0 (Below w.heap.size w wc))
      case first =>
       have H := ch.out;clear ch;have H' := am H;clear H
       go_wp2
       go_loopg [13] k1 (fun kq cC w' => ∃ (ai : Int), cC = .int .i64 ai ∧ Aside0 (r14_Model.l1 kq l1 l2 a3 ad aa ai ap aq (rdOf ByteArray.empty l1 aa) ao ((rd_T50 l2 aa).f0) ((rd_T50 l2 aa).f1) = some (r1, r2)) ∧ Aside0 (kq ≤ k1) ∧ Aside0 (Kd.R k60 60 w' w.heap.size (fun k_ => k_ ≠ ah) u10 ad) ∧ Aside0 (w'.heap[ay]? = some (.cells #[.int .u64 ap, .int .u64 aq] 24 (0, 0))) ∧ Aside0 (w'.heap[ah]? = some (.cells #[.string (rdOf ByteArray.empty l1 aa), .int .u64 ao, .int .u64 ((rd_T50 l2 aa).f0), .int .u64 ((rd_T50 l2 aa).f1)] 60 (0, 0))) ∧ Aside0 (Below w.heap.size w w'))
       case atStart => exact ⟨(0), (by first | rfl | (simp; done) | (simp [*]; done)), H', ⟨Nat.le_refl _⟩, ⟨by refine pr ?_; exact Kd.R_mono (Kd.R_far (p := ⟨ah, 3, none⟩) (Kd.R_far (p := ⟨ah, 2, none⟩) (Kd.R_far (p := ⟨ah, 1, none⟩) (Kd.R_far (p := ⟨ah, 0, none⟩) (Kd.R_mono af.out (fun k_ hk => (⟨hk, hk⟩ : _ ∧ k_ ≠ ah))) (fun _ hk => hk.2) (.string (rdOf ByteArray.empty l1 aa))) (fun _ hk => hk.2) (.int .u64 ao)) (fun _ hk => hk.2) (.int .u64 ((rd_T50 l2 aa).f0))) (fun _ hk => hk.2) (.int .u64 ((rd_T50 l2 aa).f1))) (fun _ hk => hk.1)⟩, ⟨by refine pk ?_; refine blk_far ?_ av.out _; refine pk ?_; refine blk_far ?_ av.out _; refine pk ?_; refine blk_far ?_ av.out _; refine pk ?_; refine blk_far ?_ av.out _; refine pk ?_; exact ag.out⟩, ⟨by refine pk ?_; refine blk_put (cs := #[.string (rdOf ByteArray.empty l1 aa), .int .u64 ao, .int .u64 ((rd_T50 l2 aa).f0), .int .u64 0]) ?_ 3 _ rfl; refine pk ?_; refine blk_put (cs := #[.string (rdOf ByteArray.empty l1 aa), .int .u64 ao, .int .u64 0, .int .u64 0]) ?_ 2 _ rfl; refine pk ?_; refine blk_put (cs := #[.string (rdOf ByteArray.empty l1 aa), .int .u64 0, .int .u64 0, .int .u64 0]) ?_ 1 _ rfl; refine pk ?_; refine blk_put (cs := #[.string (⟨#[]⟩ : ByteArray), .int .u64 0, .int .u64 0, .int .u64 0]) ?_ 0 _ rfl; refine pk ?_; exact ae.out⟩, ⟨pb HB⟩⟩
       case round =>
        clear H';(try clear c1);(try clear c2);(try clear p2);(try clear p3);(try clear q3);(try clear hx3);(try clear c6);(try clear b3);(try clear c7);(try clear cf);(try clear c9);(try clear cg);(try clear aV);(try clear aW);(try clear aX);(try clear aY);(try clear p2);(try clear bH);(try clear bJ);(try clear bL);(try clear bI);(try clear bK);(try clear bM);obtain ⟨ai, rfl, HA, HK2, af, ag, ae, HB⟩ := hrel
        cases gk with
        | zero => exact absurd HA.out (by simp [r14_Model.l1])
        | succ k2 =>
         have H := HA.out;clear HA
         simp only [r14_Model.l1] at H
         by_cases bR : ai < (ad.length : Int)
         ·rw [if_pos bR] at H;have bj : decide (ai < (ad.length : Int)) = true := decide_eq_true bR;clear bR
          (first | rw [bj] | (simp only [i64_w, i32_w]; rw [bj]) | skip)
          by_cases bZ : 0 ≤ ai
          ·rw [if_pos bZ] at H;have cp : decide (0 ≤ ai) = true := decide_eq_true bZ;clear bZ;replace H := Option.bind_eq_some_iff.mp H;obtain ⟨dt, cD, H⟩ := H
           try dsimp only at H
           have dl := am cD;clear cD
           by_cases b0 : dt = true
           ·subst b0
            have H1 : (r14_Model.l1 k2 l1 l2 a3 ad aa (wrap64 (ai + 1)) ap aq (rdOf ByteArray.empty l1 aa) ao ((rd_T50 l2 aa).f0) ((rd_T50 l2 aa).f1)) = some (r1, r2) := by rw [if_pos rfl] at H; exact H
            clear H;have H := H1;clear H1;have H' := am H;clear H
            try go_wp2
            replace af := am (Kd.R_drew af.out);replace ag := am (blk_drew ag.out);replace ae := am (blk_drew ae.out);replace HB := am (below_drew1 HB.out);obtain ⟨eX, eY, cE⟩ := Kd.R_slice af.out
            (first | subst cE | (injection cE with f1_ f2_ f3_; have f4_ := f1_.symm; have f5_ := f3_.symm; clear f1_ f2_ f3_; subst f4_; subst f5_))
            have bk : 0 ≤ (ai : Int) := of_decide_eq_true (by first | (with_reducible assumption) | assumption);have bl : ai < (ad.length : Int) := of_decide_eq_true (by first | (with_reducible assumption) | assumption);obtain ⟨aJ, ci, aZ, a0, a1, a2⟩ := at_T60 (Kd.R_reads' af.out).2.2 ai bk bl;cases ci;replace bk := eq_true bk;replace bl := eq_true bl
            refine start_ (n := 12) (S := fun w' => w'.cell? ⟨ah, 0, none⟩ = some (.string (rdOf ByteArray.empty l1 aa)) ∧ w'.cell? ⟨ah, 1, none⟩ = some (.int .u64 ao) ∧ w'.cell? ⟨ah, 2, none⟩ = some (.int .u64 ((rd_T50 l2 aa).f0)) ∧ w'.cell? ⟨ah, 3, none⟩ = some (.int .u64 ((rd_T50 l2 aa).f1)) ∧ w'.cell? (aJ.add ((ai).toNat * 4)) = some (.string ((rd_T60 ad ai).f0)) ∧ w'.cell? ⟨(aJ.add ((ai).toNat * 4)).block, (aJ.add ((ai).toNat * 4)).off + 1, none⟩ = some (.int .u64 ((rd_T60 ad ai).f1)) ∧ w'.cell? ⟨(aJ.add ((ai).toNat * 4)).block, (aJ.add ((ai).toNat * 4)).off + 2, none⟩ = some (.int .u64 ((rd_T60 ad ai).f2.f0)) ∧ w'.cell? ⟨(aJ.add ((ai).toNat * 4)).block, (aJ.add ((ai).toNat * 4)).off + 3, none⟩ = some (.int .u64 ((rd_T60 ad ai).f2.f1))) (ds := []) #[false, false, false, false, false, false, false, false, false, false, false, false] (by kernel_rfl) rfl rfl ⟨ce ae 0, ce ae 1, ce ae 2, ce ae 3, aZ, a0, a1, a2⟩ (fun hHeld => ?_); refine with_tabW r14_Model.tab7 r14_Model.bits7 (fun HT_ HW_ => ?_)
            generalize wr.drew = fk at af ag ae HB aZ a0 a1 a2 hHeld ⊢
            refine pu 0 ?_
            refine pu 1 ?_
            refine pu 2 ?_
            refine pu 3 ?_
            refine pu 4 ?_
            refine pu 5 ?_
            refine pu 6 ?_
            refine pu 7 ?_
            refine ta 8 hHeld ?_
            refine ta 9 hHeld ?_
            refine on1 10 (fun K hK => ?_)
            refine gs Try.func23 #[.agg #[.string ((rd_T60 ad ai).f0), .int .u64 ((rd_T60 ad ai).f1), .int .u64 ((rd_T60 ad ai).f2.f0), .int .u64 ((rd_T60 ad ai).f2.f1)], .agg #[.string (rdOf ByteArray.empty l1 aa), .int .u64 ao, .int .u64 ((rd_T50 l2 aa).f0), .int .u64 ((rd_T50 l2 aa).f1)]] ?_
            with_reducible refine (r14_Ahead.calls ((rd_T60 ad ai).f0) ((rd_T60 ad ai).f1) ((rd_T60 ad ai).f2.f0) ((rd_T60 ad ai).f2.f1) (rdOf ByteArray.empty l1 aa) ao ((rd_T50 l2 aa).f0) ((rd_T50 l2 aa).f1) true _ dl.out).mono ?_
            rintro e fl ⟨rfl, hb⟩
            have aK := (hb.cell (World.block_lt_of_cell? _ _ (hHeld.2.2.2.2.1))).trans (hHeld.2.2.2.2.1);have aM := (hb.cell (World.block_lt_of_cell? _ _ (hHeld.2.2.2.2.2.1))).trans (hHeld.2.2.2.2.2.1);have aN := (hb.cell (World.block_lt_of_cell? _ _ (hHeld.2.2.2.2.2.2.1))).trans (hHeld.2.2.2.2.2.2.1);have aQ := (hb.cell (World.block_lt_of_cell? _ _ (hHeld.2.2.2.2.2.2.2))).trans (hHeld.2.2.2.2.2.2.2)
            refine ⟨_, rfl, ?_⟩
            replace af := rb af hb;replace ag := kb ag hb;replace ae := kb ae hb;replace HB := lb HB hb
            (try clear hb)
            (try clear hb2)
            (try clear hk)
            (try clear hi)
            refine hK.out _ _ ⟨ce ae 0, ce ae 1, ce ae 2, ce ae 3, aK, aM, aN, aQ⟩ (fun hHeld => ?_)
            clear hK K
            refine nm ?_
            refine pu 11 ?_
            refine done_ (done_of HT_.out (by kernel_rfl)) ?_
            try go_wp2
            go_roundg k2
            case measure => have := HK1.out; have := HK2.out; omega
            case rel => exact ⟨(wrap64 (ai + 1)), (by first | rfl | (simp; done) | (simp [*]; done)), H', ⟨by have := HK1.out; have := HK2.out; omega⟩, ⟨pr af.out⟩, ⟨pk ag.out⟩, ⟨pk ae.out⟩, ⟨pb HB⟩⟩
           ·replace b0 := Bool.eq_false_iff.mpr b0;subst b0
            have H1 : (r14_Model.j2 k2 l1 l2 a3 ad aa ai ap aq (rdOf ByteArray.empty l1 aa) ao ((rd_T50 l2 aa).f0) ((rd_T50 l2 aa).f1)) = some (r1, r2) := by rw [if_neg (show ¬ (false = true) by decide)] at H; exact H
            clear H;have H := H1;clear H1;have H' := am H;clear H
            try go_wp2
            replace af := am (Kd.R_drew af.out);replace ag := am (blk_drew ag.out);replace ae := am (blk_drew ae.out);replace HB := am (below_drew1 HB.out);obtain ⟨eZ, e0, cF⟩ := Kd.R_slice af.out
            (first | subst cF | (injection cF with f1_ f2_ f3_; have f4_ := f1_.symm; have f5_ := f3_.symm; clear f1_ f2_ f3_; subst f4_; subst f5_))
            have bk : 0 ≤ (ai : Int) := of_decide_eq_true (by first | (with_reducible assumption) | assumption);have bl : ai < (ad.length : Int) := of_decide_eq_true (by first | (with_reducible assumption) | assumption);obtain ⟨aJ, ci, aZ, a0, a1, a2⟩ := at_T60 (Kd.R_reads' af.out).2.2 ai bk bl;cases ci;replace bk := eq_true bk;replace bl := eq_true bl
            refine start_ (n := 12) (S := fun w' => w'.cell? ⟨ah, 0, none⟩ = some (.string (rdOf ByteArray.empty l1 aa)) ∧ w'.cell? ⟨ah, 1, none⟩ = some (.int .u64 ao) ∧ w'.cell? ⟨ah, 2, none⟩ = some (.int .u64 ((rd_T50 l2 aa).f0)) ∧ w'.cell? ⟨ah, 3, none⟩ = some (.int .u64 ((rd_T50 l2 aa).f1)) ∧ w'.cell? (aJ.add ((ai).toNat * 4)) = some (.string ((rd_T60 ad ai).f0)) ∧ w'.cell? ⟨(aJ.add ((ai).toNat * 4)).block, (aJ.add ((ai).toNat * 4)).off + 1, none⟩ = some (.int .u64 ((rd_T60 ad ai).f1)) ∧ w'.cell? ⟨(aJ.add ((ai).toNat * 4)).block, (aJ.add ((ai).toNat * 4)).off + 2, none⟩ = some (.int .u64 ((rd_T60 ad ai).f2.f0)) ∧ w'.cell? ⟨(aJ.add ((ai).toNat * 4)).block, (aJ.add ((ai).toNat * 4)).off + 3, none⟩ = some (.int .u64 ((rd_T60 ad ai).f2.f1))) (ds := []) #[false, false, false, false, false, false, false, false, false, false, false, false] (by kernel_rfl) rfl rfl ⟨ce ae 0, ce ae 1, ce ae 2, ce ae 3, aZ, a0, a1, a2⟩ (fun hHeld => ?_); refine with_tabW r14_Model.tab7 r14_Model.bits7 (fun HT_ HW_ => ?_)
            generalize wr.drew = fm at af ag ae HB aZ a0 a1 a2 hHeld ⊢
            refine pu 0 ?_
            refine pu 1 ?_
            refine pu 2 ?_
            refine pu 3 ?_
            refine pu 4 ?_
            refine pu 5 ?_
            refine pu 6 ?_
            refine pu 7 ?_
            refine ta 8 hHeld ?_
            refine ta 9 hHeld ?_
            refine on1 10 (fun K hK => ?_)
            refine gs Try.func23 #[.agg #[.string ((rd_T60 ad ai).f0), .int .u64 ((rd_T60 ad ai).f1), .int .u64 ((rd_T60 ad ai).f2.f0), .int .u64 ((rd_T60 ad ai).f2.f1)], .agg #[.string (rdOf ByteArray.empty l1 aa), .int .u64 ao, .int .u64 ((rd_T50 l2 aa).f0), .int .u64 ((rd_T50 l2 aa).f1)]] ?_
            with_reducible refine (r14_Ahead.calls ((rd_T60 ad ai).f0) ((rd_T60 ad ai).f1) ((rd_T60 ad ai).f2.f0) ((rd_T60 ad ai).f2.f1) (rdOf ByteArray.empty l1 aa) ao ((rd_T50 l2 aa).f0) ((rd_T50 l2 aa).f1) false _ dl.out).mono ?_
            rintro e fn ⟨rfl, hb⟩
            have aK := (hb.cell (World.block_lt_of_cell? _ _ (hHeld.2.2.2.2.1))).trans (hHeld.2.2.2.2.1);have aM := (hb.cell (World.block_lt_of_cell? _ _ (hHeld.2.2.2.2.2.1))).trans (hHeld.2.2.2.2.2.1);have aN := (hb.cell (World.block_lt_of_cell? _ _ (hHeld.2.2.2.2.2.2.1))).trans (hHeld.2.2.2.2.2.2.1);have aQ := (hb.cell (World.block_lt_of_cell? _ _ (hHeld.2.2.2.2.2.2.2))).trans (hHeld.2.2.2.2.2.2.2)
            refine ⟨_, rfl, ?_⟩
            replace af := rb af hb;replace ag := kb ag hb;replace ae := kb ae hb;replace HB := lb HB hb
            (try clear hb)
            (try clear hb2)
            (try clear hk)
            (try clear hi)
            refine hK.out _ _ ⟨ce ae 0, ce ae 1, ce ae 2, ce ae 3, aK, aM, aN, aQ⟩ (fun hHeld => ?_)
            clear hK K
            refine nm ?_
            refine pu 11 ?_
            refine done_ (done_of HT_.out (by kernel_rfl)) ?_
            try go_wp2
            go_meet
            case rel => exact ⟨_, (ai), (by first | rfl | (simp; done) | (simp [*]; done)), H', ⟨by have := HK1.out; have := HK2.out; first | omega | exact Nat.le_refl _⟩, ⟨pr af.out⟩, ⟨pk ag.out⟩, ⟨pk ae.out⟩, ⟨pb HB⟩⟩
          ·rw [if_neg bZ] at H;exact absurd H (by simp)
         ·rw [if_neg bR] at H;have bj : decide (ai < (ad.length : Int)) = false := decide_eq_false bR;clear bR
          (first | rw [bj] | (simp only [i64_w, i32_w]; rw [bj]) | skip)
          have H' := am H;clear H
          try go_wp2
          replace af := am (Kd.R_drew af.out);replace ag := am (blk_drew ag.out);replace ae := am (blk_drew ae.out);replace HB := am (below_drew1 HB.out);obtain ⟨e1, e2, cG⟩ := Kd.R_slice af.out
          (first | subst cG | (injection cG with f1_ f2_ f3_; have f4_ := f1_.symm; have f5_ := f3_.symm; clear f1_ f2_ f3_; subst f4_; subst f5_))
          refine start_ (n := 12) (S := fun w' => True) (ds := []) #[false, false, false, false, false, false, false, false, false, false, false, false] (by kernel_rfl) rfl rfl trivial (fun hHeld => ?_); refine with_tabW r14_Model.tab7 r14_Model.bits7 (fun HT_ HW_ => ?_)
          generalize wr.drew = fo at af ag ae HB hHeld ⊢
          refine pu 0 ?_
          refine pu 1 ?_
          refine pu 2 ?_
          refine pu 3 ?_
          refine pu 4 ?_
          refine po 5 ?_
          refine po 6 ?_
          refine po 7 ?_
          refine po 8 ?_
          refine po 9 ?_
          refine po 10 ?_
          refine pu 11 ?_
          refine done_ (done_of HT_.out (by kernel_rfl)) ?_
          try go_wp2
          go_meet
          case rel => exact ⟨_, (ai), (by first | rfl | (simp; done) | (simp [*]; done)), H', ⟨by have := HK1.out; have := HK2.out; first | omega | exact Nat.le_refl _⟩, ⟨pr af.out⟩, ⟨pk ag.out⟩, ⟨pk ae.out⟩, ⟨pb HB⟩⟩
      case rest =>
       clear ch;(try clear c1);(try clear c2);(try clear p2);(try clear p3);(try clear q3);(try clear hx3);(try clear c6);(try clear b3);(try clear p6);(try clear c7);(try clear cf);(try clear c9);(try clear cg);(try clear bR);(try clear bj);(try clear bZ);(try clear cp);(try clear b0);(try clear c23);(try clear p30);(try clear q30);(try clear hx30);(try clear aV);(try clear aW);(try clear aX);(try clear aY);(try clear aZ);(try clear a0);(try clear a1);(try clear a2);(try clear p2);(try clear p3);(try clear bH);(try clear bJ);(try clear bL);(try clear bk);(try clear q3);(try clear bI);(try clear bK);(try clear bM);(try clear bl);obtain ⟨kq, ac, rfl, HA, b1, af, ag, ae, HB⟩ := hcut
       cases kq with
       | zero => exact absurd HA.out (by simp [r14_Model.j2])
       | succ d8 =>
        have H := HA.out;clear HA
        simp only [r14_Model.j2] at H
        have cj := am H;clear H
        go_upto_region 9 with (fail)
        go_cut [14] (fun d9 wc => ∃ (kq : Nat) (bF : Bool), d9 = .bool bF ∧ Aside0 (r14_Model.j3 kq l1 l2 a3 ad aa ac bF ap aq (rdOf ByteArray.empty l1 aa) ao ((rd_T50 l2 aa).f0) ((rd_T50 l2 aa).f1) = some (r1, r2)) ∧ Aside0 (kq ≤ d8) ∧ Aside0 (Kd.R k60 60 wc w.heap.size (fun k_ => k_ ≠ ah) u10 ad) ∧ Aside0 (wc.heap[ay]? = some (.cells #[.int .u64 ap, .int .u64 aq] 24 (0, 0))) ∧ Aside0 (wc.heap[ah]? = some (.cells #[.string (rdOf ByteArray.empty l1 aa), .int .u64 ao, .int .u64 ((rd_T50 l2 aa).f0), .int .u64 ((rd_T50 l2 aa).f1)] 60 (0, 0))) ∧ Aside0 (Below w.heap.size w wc))
        case first =>
         have H := cj.out;clear cj
         by_cases bV : ac < (ad.length : Int)
         ·rw [if_pos bV] at H;have bz : decide (ac < (ad.length : Int)) = true := decide_eq_true bV;clear bV
          (first | rw [bz] | (simp only [i64_w, i32_w]; rw [bz]) | skip)
          by_cases b_ : 0 ≤ ac
          ·rw [if_pos b_] at H;have da : decide (0 ≤ ac) = true := decide_eq_true b_;clear b_;have H' := am H;clear H
           try go_wp2
           replace af := am (Kd.R_drew af.out);replace ag := am (blk_drew ag.out);replace ae := am (blk_drew ae.out);replace HB := am (below_drew1 HB.out);obtain ⟨e3, e4, cH⟩ := Kd.R_slice af.out
           (first | subst cH | (injection cH with f1_ f2_ f3_; have f4_ := f1_.symm; have f5_ := f3_.symm; clear f1_ f2_ f3_; subst f4_; subst f5_))
           have b4 : 0 ≤ (ac : Int) := of_decide_eq_true (by first | (with_reducible assumption) | assumption);have b5 : ac < (ad.length : Int) := of_decide_eq_true (by first | (with_reducible assumption) | assumption);obtain ⟨bm, du, bN, bO, bP, bQ⟩ := at_T60 (Kd.R_reads' af.out).2.2 ac b4 b5;cases du;replace b4 := eq_true b4;replace b5 := eq_true b5
           refine start_ (n := 15) (S := fun w' => w'.cell? ⟨ah, 0, none⟩ = some (.string (rdOf ByteArray.empty l1 aa)) ∧ w'.cell? ⟨ah, 1, none⟩ = some (.int .u64 ao) ∧ w'.cell? ⟨ah, 2, none⟩ = some (.int .u64 ((rd_T50 l2 aa).f0)) ∧ w'.cell? ⟨ah, 3, none⟩ = some (.int .u64 ((rd_T50 l2 aa).f1)) ∧ w'.cell? (bm.add ((ac).toNat * 4)) = some (.string ((rd_T60 ad ac).f0)) ∧ w'.cell? ⟨(bm.add ((ac).toNat * 4)).block, (bm.add ((ac).toNat * 4)).off + 1, none⟩ = some (.int .u64 ((rd_T60 ad ac).f1)) ∧ w'.cell? ⟨(bm.add ((ac).toNat * 4)).block, (bm.add ((ac).toNat * 4)).off + 2, none⟩ = some (.int .u64 ((rd_T60 ad ac).f2.f0)) ∧ w'.cell? ⟨(bm.add ((ac).toNat * 4)).block, (bm.add ((ac).toNat * 4)).off + 3, none⟩ = some (.int .u64 ((rd_T60 ad ac).f2.f1))) (ds := []) #[false, false, false, false, false, false, false, false, false, false, false, false, false, false, false] (by kernel_rfl) rfl rfl ⟨ce ae 0, ce ae 1, ce ae 2, ce ae 3, bN, bO, bP, bQ⟩ (fun hHeld => ?_); refine with_tabW r14_Model.tab9 r14_Model.bits9 (fun HT_ HW_ => ?_)
           generalize wc.drew = fp at af ag ae HB bN bO bP bQ hHeld ⊢
           refine pu 0 ?_
           refine pu 1 ?_
           refine pu 2 ?_
           refine pu 3 ?_
           refine pu 4 ?_
           refine pu 5 ?_
           refine pu 6 ?_
           refine pu 7 ?_
           refine pu 8 ?_
           refine pu 10 ?_
           refine ta 9 hHeld ?_
           refine ta 11 hHeld ?_
           refine pu 12 ?_
           refine pu 13 ?_
           refine pu 14 ?_
           refine done_ (done_of HT_.out (by kernel_rfl)) ?_
           try go_wp2
           go_meet
           case rel => exact ⟨_, ((((rd_T60 ad ac).f0).toList == (rdOf ByteArray.empty l1 aa).toList)), (by first | rfl | (simp; done) | (simp [*]; done)), H', ⟨by have := HK1.out; have := b1.out; first | omega | exact Nat.le_refl _⟩, ⟨pr af.out⟩, ⟨pk ag.out⟩, ⟨pk ae.out⟩, ⟨pb HB⟩⟩
          ·rw [if_neg b_] at H;exact absurd H (by simp)
         ·rw [if_neg bV] at H;have bz : decide (ac < (ad.length : Int)) = false := decide_eq_false bV;clear bV
          (first | rw [bz] | (simp only [i64_w, i32_w]; rw [bz]) | skip)
          have H' := am H;clear H
          try go_wp2
          replace af := am (Kd.R_drew af.out);replace ag := am (blk_drew ag.out);replace ae := am (blk_drew ae.out);replace HB := am (below_drew1 HB.out);obtain ⟨e5, e6, cI⟩ := Kd.R_slice af.out
          (first | subst cI | (injection cI with f1_ f2_ f3_; have f4_ := f1_.symm; have f5_ := f3_.symm; clear f1_ f2_ f3_; subst f4_; subst f5_))
          refine start_ (n := 15) (S := fun w' => True) (ds := []) #[false, false, false, false, false, false, false, false, false, false, false, false, false, false, false] (by kernel_rfl) rfl rfl trivial (fun hHeld => ?_); refine with_tabW r14_Model.tab9 r14_Model.bits9 (fun HT_ HW_ => ?_)
          generalize wc.drew = fq at af ag ae HB hHeld ⊢
          refine pu 0 ?_
          refine pu 1 ?_
          refine pu 2 ?_
          refine pu 3 ?_
          refine pu 4 ?_
          refine po 5 ?_
          refine po 6 ?_
          refine po 7 ?_
          refine po 8 ?_
          refine po 9 ?_
          refine po 10 ?_
          refine po 11 ?_
          refine po 12 ?_
          refine pu 13 ?_
          refine pu 14 ?_
          refine done_ (done_of HT_.out (by kernel_rfl)) ?_
          try go_wp2
          go_meet
          case rel => exact ⟨_, (false), (by first | rfl | (simp; done) | (simp [*]; done)), H', ⟨by have := HK1.out; have := b1.out; first | omega | exact Nat.le_refl _⟩, ⟨pr af.out⟩, ⟨pk ag.out⟩, ⟨pk ae.out⟩, ⟨pb HB⟩⟩
        case rest =>
         clear cj;(try clear c1);(try clear c2);(try clear p2);(try clear c3);(try clear p3);(try clear q3);(try clear hx3);(try clear c6);(try clear b3);(try clear p6);(try clear c7);(try clear cf);(try clear c9);(try clear cg);(try clear bR);(try clear bj);(try clear bZ);(try clear cp);(try clear b0);(try clear c23);(try clear p30);(try clear q30);(try clear hx30);(try clear p31);(try clear q31);(try clear hx31);(try clear bV);(try clear bz);(try clear b_);(try clear da);(try clear aV);(try clear aW);(try clear aX);(try clear aY);(try clear aZ);(try clear a0);(try clear a1);(try clear a2);(try clear bN);(try clear bO);(try clear bP);(try clear bQ);(try clear p2);(try clear p3);(try clear p30);(try clear bH);(try clear bJ);(try clear bL);(try clear bk);(try clear b4);(try clear p6);(try clear q3);(try clear q30);(try clear bI);(try clear bK);(try clear bM);(try clear bl);(try clear b5);obtain ⟨kq, bF, rfl, HA, b6, af, ag, ae, HB⟩ := hcut
         cases kq with
         | zero => exact absurd HA.out (by simp [r14_Model.j3])
         | succ bd =>
          have H := HA.out;clear HA
          simp only [r14_Model.j3] at H
          by_cases cq : bF = true
          ·subst cq
           have H1 : (if 0 ≤ ac then (if ac < (ad.length : Int) then ((r01_Add.f ((rd_T60 ad ac).f2.f0) ((rd_T60 ad ac).f2.f1) ((rd_T50 l2 aa).f0) ((rd_T50 l2 aa).f1)).bind fun bt318 => (if bt318.2.2 = true then (r14_Model.l0 bd l1 l2 a3 (ad.set (ac : Int).toNat (⟨(rd_T60 ad ac).f0, (rd_T60 ad ac).f1, (⟨bt318.1, bt318.2.1⟩ : S50)⟩ : S60)) (wrap64 (aa + 1)) ap aq) else (some (([] : List (S60)), false)))) else (none)) else (none)) = some (r1, r2) := by rw [if_pos rfl] at H; exact H
           clear H;have H := H1;clear H1
           by_cases cr : 0 ≤ ac
           ·rw [if_pos cr] at H;have ev : decide (0 ≤ ac) = true := decide_eq_true cr;clear cr
            by_cases ct : ac < (ad.length : Int)
            ·rw [if_pos ct] at H;have ew : decide (ac < (ad.length : Int)) = true := decide_eq_true ct;clear ct;replace H := Option.bind_eq_some_iff.mp H;obtain ⟨⟨az, aA, dv⟩, cJ, H⟩ := H
             try dsimp only at H
             have cu := am cJ;clear cJ
             by_cases cv : dv = true
             ·subst cv
              have H1 : (r14_Model.l0 bd l1 l2 a3 (ad.set (ac : Int).toNat (⟨(rd_T60 ad ac).f0, (rd_T60 ad ac).f1, (⟨az, aA⟩ : S50)⟩ : S60)) (wrap64 (aa + 1)) ap aq) = some (r1, r2) := by rw [if_pos rfl] at H; exact H
              clear H;have H := H1;clear H1;obtain ⟨ck, hy322⟩ : ∃ y_ : List (S60), y_ = (ad.set (ac : Int).toNat (⟨(rd_T60 ad ac).f0, (rd_T60 ad ac).f1, (⟨az, aA⟩ : S50)⟩ : S60)) := ⟨_, rfl⟩
              replace H : (r14_Model.l0 bd l1 l2 a3 ck (wrap64 (aa + 1)) ap aq) = some (r1, r2) := by first | (rw [hy322]; with_reducible exact H) | (have H2_ := (Option.bind_some _ _).symm.trans H; rw [hy322]; with_reducible exact H2_) | (have H2_ := (Option.bind_some _ _).symm.trans H; with_reducible exact H2_) | with_reducible exact H | (rw [hy322]; exact H) | exact H
              have Ny322 := am hy322;clear hy322;have H' := am H;clear H
              try go_wp2
              replace af := am (Kd.R_drew af.out);replace ag := am (blk_drew ag.out);replace ae := am (blk_drew ae.out);replace HB := am (below_drew1 HB.out);obtain ⟨e7, b7, cK⟩ := Kd.R_slice af.out
              (first | subst cK | (injection cK with f1_ f2_ f3_; have f4_ := f1_.symm; have f5_ := f3_.symm; clear f1_ f2_ f3_; subst f4_; subst f5_))
              have bC : 0 ≤ (ac : Int) := of_decide_eq_true (by first | (with_reducible assumption) | assumption);have bD : ac < (ad.length : Int) := of_decide_eq_true (by first | (with_reducible assumption) | assumption);obtain ⟨aj, cl, a_, ba, bb, bc⟩ := at_T60 (Kd.R_reads' af.out).2.2 ac bC bD;cases cl;replace bC := eq_true bC;replace bD := eq_true bD
              refine start_ (n := 14) (S := fun w' => w'.cell? ⟨ah, 0, none⟩ = some (.string (rdOf ByteArray.empty l1 aa)) ∧ w'.cell? ⟨ah, 1, none⟩ = some (.int .u64 ao) ∧ w'.cell? ⟨ah, 2, none⟩ = some (.int .u64 ((rd_T50 l2 aa).f0)) ∧ w'.cell? ⟨ah, 3, none⟩ = some (.int .u64 ((rd_T50 l2 aa).f1)) ∧ w'.cell? (aj.add ((ac).toNat * 4)) = some (.string ((rd_T60 ad ac).f0)) ∧ w'.cell? ⟨(aj.add ((ac).toNat * 4)).block, (aj.add ((ac).toNat * 4)).off + 1, none⟩ = some (.int .u64 ((rd_T60 ad ac).f1)) ∧ w'.cell? ⟨(aj.add ((ac).toNat * 4)).block, (aj.add ((ac).toNat * 4)).off + 2, none⟩ = some (.int .u64 ((rd_T60 ad ac).f2.f0)) ∧ w'.cell? ⟨(aj.add ((ac).toNat * 4)).block, (aj.add ((ac).toNat * 4)).off + 3, none⟩ = some (.int .u64 ((rd_T60 ad ac).f2.f1))) (ds := []) #[false, false, false, false, false, false, false, false, false, false, false, false, false, false] (by kernel_rfl) rfl rfl ⟨ce ae 0, ce ae 1, ce ae 2, ce ae 3, a_, ba, bb, bc⟩ (fun hHeld => ?_); refine with_tabW r14_Model.tab11 r14_Model.bits11 (fun HT_ HW_ => ?_)
              generalize wc.drew = fr at af ag ae HB a_ ba bb bc hHeld ⊢
              refine pu 0 ?_
              refine pu 1 ?_
              refine pu 2 ?_
              refine pu 3 ?_
              refine pu 5 ?_
              refine ta 4 hHeld ?_
              refine ta 6 hHeld ?_
              refine join_ (σ := Nat) 2 #[true, true, true, true, true, true, true, true, true, true, true, true, false, false] (fun s_ => [(76, .tuple #[.agg #[.int .u64 az, .int .u64 aA], .bool true]), (15, .pointer (some ⟨s_, 0, none⟩)), (68, .tuple #[.agg #[.int .u64 az, .int .u64 aA], .bool true]), (77, .agg #[.int .u64 az, .int .u64 aA]), (78, .bool true)]) (fun s_ w' => (w'.cell? ⟨ah, 0, none⟩ = some (.string (rdOf ByteArray.empty l1 aa)) ∧ w'.cell? ⟨ah, 1, none⟩ = some (.int .u64 ao) ∧ w'.cell? ⟨ah, 2, none⟩ = some (.int .u64 ((rd_T50 l2 aa).f0)) ∧ w'.cell? ⟨ah, 3, none⟩ = some (.int .u64 ((rd_T50 l2 aa).f1)) ∧ w'.cell? (aj.add ((ac).toNat * 4)) = some (.string ((rd_T60 ad ac).f0)) ∧ w'.cell? ⟨(aj.add ((ac).toNat * 4)).block, (aj.add ((ac).toNat * 4)).off + 1, none⟩ = some (.int .u64 ((rd_T60 ad ac).f1)) ∧ w'.cell? ⟨(aj.add ((ac).toNat * 4)).block, (aj.add ((ac).toNat * 4)).off + 2, none⟩ = some (.int .u64 ((rd_T60 ad ac).f2.f0)) ∧ w'.cell? ⟨(aj.add ((ac).toNat * 4)).block, (aj.add ((ac).toNat * 4)).off + 3, none⟩ = some (.int .u64 ((rd_T60 ad ac).f2.f1))) ∧ (Kd.R k60 60 w' w.heap.size (fun k_ => k_ ≠ ah) (.slice (some aj) ad.length b7) ad) ∧ (w'.heap[ay]? = some (.cells #[.int .u64 ap, .int .u64 aq] 24 (0, 0))) ∧ (w'.heap[ah]? = some (.cells #[.string (rdOf ByteArray.empty l1 aa), .int .u64 ao, .int .u64 ((rd_T50 l2 aa).f0), .int .u64 ((rd_T50 l2 aa).f1)] 60 (0, 0))) ∧ (w'.heap[s_]? = some (.cells #[.int .u64 0, .int .u64 0] 50 (0, 0))) ∧ (w.heap.size ≤ s_) ∧ (w.heap.size ≤ s_) ∧ (ay ≠ s_) ∧ (s_ ≠ ay) ∧ (ah ≠ s_) ∧ (s_ ≠ ah) ∧ (Below w.heap.size w w')) ?_ ?_
              rotate_left
              ·intro hCont
               refine two_ (i := 7) (j := 11) (Ni := some 76) (Nj := some 15) #[true, true, true, true, true, true, true, true, false, false, false, false, false, false] #[true, true, true, true, true, true, true, false, false, false, false, true, false, false] rfl rfl rfl rfl (two_of HT_.out (by kernel_rfl)) (by decide) (by decide) (fun K hK => ?_) (fun K hK => ?_)
               ·skip
                refine gs Try.func31 #[.agg #[.int .u64 ((rd_T60 ad ac).f2.f0), .int .u64 ((rd_T60 ad ac).f2.f1)], .agg #[.int .u64 ((rd_T50 l2 aa).f0), .int .u64 ((rd_T50 l2 aa).f1)]] ?_
                with_reducible refine (r01_Add.calls ((rd_T60 ad ac).f2.f0) ((rd_T60 ad ac).f2.f1) ((rd_T50 l2 aa).f0) ((rd_T50 l2 aa).f1) az aA true _ cu.out).mono ?_
                rintro e d_ ⟨rfl, hb⟩
                have aK := (hb.cell (World.block_lt_of_cell? _ _ (hHeld.2.2.2.2.1))).trans (hHeld.2.2.2.2.1);have aM := (hb.cell (World.block_lt_of_cell? _ _ (hHeld.2.2.2.2.2.1))).trans (hHeld.2.2.2.2.2.1);have aN := (hb.cell (World.block_lt_of_cell? _ _ (hHeld.2.2.2.2.2.2.1))).trans (hHeld.2.2.2.2.2.2.1);have aQ := (hb.cell (World.block_lt_of_cell? _ _ (hHeld.2.2.2.2.2.2.2))).trans (hHeld.2.2.2.2.2.2.2)
                refine ⟨_, rfl, ?_⟩
                replace af := rb af hb;replace ag := kb ag hb;replace ae := kb ae hb;replace HB := lb HB hb
                (try clear hb)
                (try clear hb2)
                (try clear hk)
                (try clear hi)
                refine hK.out _ _ ⟨ce ae 0, ce ae 1, ce ae 2, ce ae 3, aK, aM, aN, aQ⟩ (fun hHeld => ?_)
                clear hK K
                refine nm ?_
                refine pu 8 ?_
                refine pu 9 ?_
                refine pu 10 ?_
                refine on1 11 (fun K hK => ?_)
                refine bx 15 #[.int .u64 0, .int .u64 0] 50 ?_
                intro au hg ea hbox hb
                have aK := (hb.cell (World.block_lt_of_cell? _ _ (hHeld.2.2.2.2.1))).trans (hHeld.2.2.2.2.1);have aM := (hb.cell (World.block_lt_of_cell? _ _ (hHeld.2.2.2.2.2.1))).trans (hHeld.2.2.2.2.2.1);have aN := (hb.cell (World.block_lt_of_cell? _ _ (hHeld.2.2.2.2.2.2.1))).trans (hHeld.2.2.2.2.2.2.1);have aQ := (hb.cell (World.block_lt_of_cell? _ _ (hHeld.2.2.2.2.2.2.2))).trans (hHeld.2.2.2.2.2.2.2);replace af := rb af hb;have an := am (hbox);have a8 := gq hg HB;have a9 := gq hg HB;replace HB := lb HB hb;obtain ⟨ar, aw, -, -⟩ := pm hg ag;replace ag := kb ag hb;obtain ⟨ak, ax, -, -⟩ := pm hg ae;replace ae := kb ae hb;clear hb hbox hg
                refine hK.out _ _ ⟨ce ae 0, ce ae 1, ce ae 2, ce ae 3, aK, aM, aN, aQ⟩ (fun hHeld => ?_)
                clear hK K
                refine nm ?_
                exact nj (hCont (au) _ ⟨hHeld, (pr af.out), (pk ag.out), (pk ae.out), (pk an.out), a8.out, a9.out, ar.out, aw.out, ak.out, ax.out, (pb HB)⟩)
               ·skip
                refine bx 15 #[.int .u64 0, .int .u64 0] 50 ?_
                intro au hg d_ hbox hb
                have aK := (hb.cell (World.block_lt_of_cell? _ _ (hHeld.2.2.2.2.1))).trans (hHeld.2.2.2.2.1);have aM := (hb.cell (World.block_lt_of_cell? _ _ (hHeld.2.2.2.2.2.1))).trans (hHeld.2.2.2.2.2.1);have aN := (hb.cell (World.block_lt_of_cell? _ _ (hHeld.2.2.2.2.2.2.1))).trans (hHeld.2.2.2.2.2.2.1);have aQ := (hb.cell (World.block_lt_of_cell? _ _ (hHeld.2.2.2.2.2.2.2))).trans (hHeld.2.2.2.2.2.2.2);replace af := rb af hb;have an := am (hbox);have a8 := gq hg HB;have a9 := gq hg HB;replace HB := lb HB hb;obtain ⟨ar, aw, -, -⟩ := pm hg ag;replace ag := kb ag hb;obtain ⟨ak, ax, -, -⟩ := pm hg ae;replace ae := kb ae hb;clear hb hbox hg
                refine hK.out _ _ ⟨ce ae 0, ce ae 1, ce ae 2, ce ae 3, aK, aM, aN, aQ⟩ (fun hHeld => ?_)
                clear hK K
                refine nm ?_
                refine on1 7 (fun K hK => ?_)
                refine gs Try.func31 #[.agg #[.int .u64 ((rd_T60 ad ac).f2.f0), .int .u64 ((rd_T60 ad ac).f2.f1)], .agg #[.int .u64 ((rd_T50 l2 aa).f0), .int .u64 ((rd_T50 l2 aa).f1)]] ?_
                with_reducible refine (r01_Add.calls ((rd_T60 ad ac).f2.f0) ((rd_T60 ad ac).f2.f1) ((rd_T50 l2 aa).f0) ((rd_T50 l2 aa).f1) az aA true _ cu.out).mono ?_
                rintro e ea ⟨rfl, hb⟩
                have aK := (hb.cell (World.block_lt_of_cell? _ _ (hHeld.2.2.2.2.1))).trans (hHeld.2.2.2.2.1);have aM := (hb.cell (World.block_lt_of_cell? _ _ (hHeld.2.2.2.2.2.1))).trans (hHeld.2.2.2.2.2.1);have aN := (hb.cell (World.block_lt_of_cell? _ _ (hHeld.2.2.2.2.2.2.1))).trans (hHeld.2.2.2.2.2.2.1);have aQ := (hb.cell (World.block_lt_of_cell? _ _ (hHeld.2.2.2.2.2.2.2))).trans (hHeld.2.2.2.2.2.2.2)
                refine ⟨_, rfl, ?_⟩
                replace af := rb af hb;replace ag := kb ag hb;replace ae := kb ae hb;replace an := kb an hb;replace HB := lb HB hb
                (try clear hb)
                (try clear hb2)
                (try clear hk)
                (try clear hi)
                refine hK.out _ _ ⟨ce ae 0, ce ae 1, ce ae 2, ce ae 3, aK, aM, aN, aQ⟩ (fun hHeld => ?_)
                clear hK K
                refine nm ?_
                refine pu 8 ?_
                refine pu 9 ?_
                refine pu 10 ?_
                exact nj (hCont (au) _ ⟨hHeld, (pr af.out), (pk ag.out), (pk ae.out), (pk an.out), a8.out, a9.out, ar.out, aw.out, ak.out, ax.out, (pb HB)⟩)
              rintro au a6 ⟨hS_, bn, bo, bp, bq, br, bs, bu, bv, bW, bX, bE⟩
              (try dsimp only at bn bo bp bq br bs bu bv bW bX bE);replace af := am bn;replace ag := am bo;replace ae := am bp;have an := am bq;have a8 := am br;have a9 := am bs;have ar := am bu;have aw := am bv;have ak := am bW;have ax := am bX;replace HB := am bE;clear bn bo bp bq br bs bu bv bW bX bE;have hHeld : a6.cell? ⟨ah, 0, none⟩ = some (.string (rdOf ByteArray.empty l1 aa)) ∧ a6.cell? ⟨ah, 1, none⟩ = some (.int .u64 ao) ∧ a6.cell? ⟨ah, 2, none⟩ = some (.int .u64 ((rd_T50 l2 aa).f0)) ∧ a6.cell? ⟨ah, 3, none⟩ = some (.int .u64 ((rd_T50 l2 aa).f1)) ∧ a6.cell? (aj.add ((ac).toNat * 4)) = some (.string ((rd_T60 ad ac).f0)) ∧ a6.cell? ⟨(aj.add ((ac).toNat * 4)).block, (aj.add ((ac).toNat * 4)).off + 1, none⟩ = some (.int .u64 ((rd_T60 ad ac).f1)) ∧ a6.cell? ⟨(aj.add ((ac).toNat * 4)).block, (aj.add ((ac).toNat * 4)).off + 2, none⟩ = some (.int .u64 ((rd_T60 ad ac).f2.f0)) ∧ a6.cell? ⟨(aj.add ((ac).toNat * 4)).block, (aj.add ((ac).toNat * 4)).off + 3, none⟩ = some (.int .u64 ((rd_T60 ad ac).f2.f1)) := hS_
              refine norm_ (a' := ?_) ?_ ?_
              rotate_left
              ·simp only [putAll, Act.put, List.setIfInBounds_toArray, List.set_cons_zero, List.set_cons_succ]
               rfl
              refine one_ (i := 12) (N := none) #[true, true, true, true, true, true, true, true, true, true, true, true, true, false] rfl rfl (one_of HT_.out (by kernel_rfl)) (by decide) (fun K hK => ?_)
              have e8 : a6.cell? ⟨au, 0, none⟩ = some (.int .u64 0) := ce an 0;have ex := blk_frozen an.out 0;have dJ := ar.out;have dK := ak.out;have hms49_0 := aw.out;have hms49_1 := ax.out;have e9 : a6.cell? ⟨au, 1, none⟩ = some (.int .u64 0) := ce an 1;have ey := blk_frozen an.out 1;have dL := ar.out;have dM := ak.out;have hms50_0 := aw.out;have hms50_1 := ax.out
              refine skip_ (w1 := ?_) (by rfl) rfl ?_ ?_
              rotate_left
              ·go_simp
               rfl
              refine hK.out _ _ ⟨(q2 ak.out hHeld.1), (q2 ak.out hHeld.2.1), (q2 ak.out hHeld.2.2.1), (q2 ak.out hHeld.2.2.2.1), (q2 (ab (Kd.own_blk (Kd.R_ne af.out an.out (by decide)))) hHeld.2.2.2.2.1), (q2 (ab (Kd.own_blk (Kd.R_ne af.out an.out (by decide)))) hHeld.2.2.2.2.2.1), (q2 (ab (Kd.own_blk (Kd.R_ne af.out an.out (by decide)))) hHeld.2.2.2.2.2.2.1), (q2 (ab (Kd.own_blk (Kd.R_ne af.out an.out (by decide)))) hHeld.2.2.2.2.2.2.2)⟩ (fun hHeld => ?_)
              clear hK K
              refine pu 13 ?_
              refine done_ (done_of HT_.out (by kernel_rfl)) ?_
              have n0_ : Aside0 (Kd.R k60 60 ((a6.setCell ⟨au, 0, none⟩ (.int .u64 az)).setCell ⟨au, 1, none⟩ (.int .u64 aA)) w.heap.size (fun k_ => k_ ≠ ah) (.slice (some aj) ad.length b7) ad) := ⟨by refine pr ?_; exact Kd.R_mono (Kd.R_far (p := ⟨au, 1, none⟩) (Kd.R_far (p := ⟨au, 0, none⟩) (Kd.R_types af.out an.out (by decide)) (fun _ hk => hk.2) (.int .u64 az)) (fun _ hk => hk.2) (.int .u64 aA)) (fun _ hk => hk.1)⟩;have n1_ : Aside0 (((a6.setCell ⟨au, 0, none⟩ (.int .u64 az)).setCell ⟨au, 1, none⟩ (.int .u64 aA)).heap[ay]? = some (.cells #[.int .u64 ap, .int .u64 aq] 24 (0, 0))) := ⟨by refine pk ?_; refine blk_far ?_ ar.out _; refine pk ?_; refine blk_far ?_ ar.out _; refine pk ?_; exact ag.out⟩;have n2_ : Aside0 (((a6.setCell ⟨au, 0, none⟩ (.int .u64 az)).setCell ⟨au, 1, none⟩ (.int .u64 aA)).heap[ah]? = some (.cells #[.string (rdOf ByteArray.empty l1 aa), .int .u64 ao, .int .u64 ((rd_T50 l2 aa).f0), .int .u64 ((rd_T50 l2 aa).f1)] 60 (0, 0))) := ⟨by refine pk ?_; refine blk_far ?_ ak.out _; refine pk ?_; refine blk_far ?_ ak.out _; refine pk ?_; exact ae.out⟩;have n3_ : Aside0 (((a6.setCell ⟨au, 0, none⟩ (.int .u64 az)).setCell ⟨au, 1, none⟩ (.int .u64 aA)).heap[au]? = some (.cells #[.int .u64 az, .int .u64 aA] 50 (0, 0))) := ⟨by refine pk ?_; refine blk_put (cs := #[.int .u64 az, .int .u64 0]) ?_ 1 _ rfl; refine pk ?_; refine blk_put (cs := #[.int .u64 0, .int .u64 0]) ?_ 0 _ rfl; refine pk ?_; exact an.out⟩;have n4_ : Aside0 (Below w.heap.size w ((a6.setCell ⟨au, 0, none⟩ (.int .u64 az)).setCell ⟨au, 1, none⟩ (.int .u64 aA))) := ⟨pb HB⟩
              (try clear af)
              (try clear ag)
              (try clear ae)
              (try clear an)
              (try clear HB)
              generalize ((a6.setCell ⟨au, 0, none⟩ (.int .u64 az)).setCell ⟨au, 1, none⟩ (.int .u64 aA)) = bw at n0_ n1_ n2_ n3_ n4_ ⊢
              have af := n0_;have ag := n1_;have ae := n2_;have an := n3_;have HB := n4_;clear n0_ n1_ n2_ n3_ n4_;have ez := aw.out;have eA := ar.out;have eB := ax.out;have eC := ak.out;obtain ⟨dN, dO, dP, dQ⟩ := g2 an;have cL : 0 ≤ (ac : Int) := of_decide_eq_true (by first | (with_reducible assumption) | assumption);have cM : (ac : Int) < ((ad.length : Int) : Int) := of_decide_eq_true (by first | (with_reducible assumption) | assumption);obtain ⟨go43, fa, cN, cO, gl43, cl43, HG43⟩ := Kd.R_form af.out (by omega)
              (first | cases cN | (injection cN with ea_ en_ ec_; (first | subst ea_ | (injection ea_ with ea_; subst ea_)); subst ec_; clear en_))
              have GB43 := am cO;have GG43 := am HG43;clear cO gl43 HG43
              (first | simp only [add_plain] at a_ | skip)
              (first | simp only [add_plain] at ba | skip)
              (first | simp only [add_plain] at bb | skip)
              (first | simp only [add_plain] at bc | skip)
              obtain ⟨ce43, hcl43, hM43, hcc43, hfr43⟩ := Kd.R_elem af.out z60 (ac : Int) cL cM;obtain rfl := k60_openM hM43;have eb : bw.cell? ⟨go43, (ac : Int).toNat * 4, none⟩ = some (.string ((rd_T60 ad ac).f0)) := hcc43 0 _ rfl;have ec : bw.cell? ⟨go43, (ac : Int).toNat * 4 + 1, none⟩ = some (.int .u64 ((rd_T60 ad ac).f1)) := hcc43 1 _ rfl;have ed : bw.cell? ⟨go43, (ac : Int).toNat * 4 + 2, none⟩ = some (.int .u64 ((rd_T60 ad ac).f2.f0)) := hcc43 2 _ rfl;have ee : bw.cell? ⟨go43, (ac : Int).toNat * 4 + 3, none⟩ = some (.int .u64 ((rd_T60 ad ac).f2.f1)) := hcc43 3 _ rfl;have ef : bw.frozen? ⟨go43, (ac : Int).toNat * 4, none⟩ = false := hfr43 0;have eg : bw.frozen? ⟨go43, (ac : Int).toNat * 4 + 1, none⟩ = false := hfr43 1;have eh : bw.frozen? ⟨go43, (ac : Int).toNat * 4 + 2, none⟩ = false := hfr43 2;have ei : bw.frozen? ⟨go43, (ac : Int).toNat * 4 + 3, none⟩ = false := hfr43 3;clear hcl43 hcc43 hfr43 hM43;replace cL := eq_true cL;replace cM := eq_true cM;have cP := am (show Kd.R k60 60 bw w.heap.size (fun k_ => k_ ≠ ah) (.slice (some ⟨go43, 0, none⟩) ad.length b7) ad from (pr af.out));obtain ⟨ce55, hcl55, hM55, hcc55, hfr55⟩ := Kd.R_elem cP.out z60 (ac : Int) (of_decide_eq_true (by first | (with_reducible assumption) | assumption)) (by have h_ : (ac : Int) < ((ad.length : Int) : Int) := of_decide_eq_true (by first | (with_reducible assumption) | assumption); first | exact h_ | (have e_ := (Kd.R_reads' af.out).1; omega) | simpa using h_);obtain rfl := k60_openM hM55;have HP55 := Kd.R_seg cP.out (ac : Int) (of_decide_eq_true (by first | (with_reducible assumption) | assumption)) (by have h_ : (ac : Int) < ((ad.length : Int) : Int) := of_decide_eq_true (by first | (with_reducible assumption) | assumption); first | exact h_ | (have e_ := (Kd.R_reads' af.out).1; omega) | simpa using h_) (seg := [.int .u64 az, .int .u64 aA]) (j := 2) hcl55 hcc55 (show 4 ≤ 4 from by decide) (x' := (⟨(rd_T60 ad ac).f0, (rd_T60 ad ac).f1, (⟨az, aA⟩ : S50)⟩ : S60)) (k60_mkM _ _ _ (⟨(rd_T60 ad ac).f0, (rd_T60 ad ac).f1, (⟨az, aA⟩ : S50)⟩ : S60) ) (fun _ hk => hk);have cQ := hcc55 2 _ rfl
              (try simp only [show (k60).sz = 4 from rfl, Nat.mul_one, Nat.add_zero] at cQ)
              have cR := hfr55 2
              (try simp only [show (k60).sz = 4 from rfl, Nat.mul_one, Nat.add_zero] at cR)
              have cS := hcc55 3 _ rfl
              (try simp only [show (k60).sz = 4 from rfl, Nat.mul_one, Nat.add_zero] at cS)
              have cT := hfr55 3
              (try simp only [show (k60).sz = 4 from rfl, Nat.mul_one, Nat.add_zero] at cT)
              clear hcl55 hcc55 hfr55 hM55
              try go_wp2_with (first | ((with_reducible refine gate_store (t := 50) (p := 85) rfl ?_); refine store_event (t := 50) (p := 85) (v := ?vo_w56) (w1 := ((bw.setCell ⟨go43, (ac : Int).toNat * 4 + 2, none⟩ (.int .u64 az)).setCell ⟨go43, (ac : Int).toNat * 4 + 3, none⟩ (.int .u64 aA))) ?hg ?ho ?hn ?hr ?_; (case ho => rfl); (case hg => rfl); (case hn => rfl); (case hr => first | (go_simp; done) | (go_simp; rfl)); intro cU hw; have hg : bw.grownBy cU (some go43) := (by rw [hw]; exact HP55.2); have hp_ : Kd.R k60 60 cU w.heap.size (fun k_ => k_ ≠ ah) (.slice (some ⟨go43, 0, none⟩) ad.length b7) ck := (by rw [hw, Ny322.out]; exact HP55.1); clear HP55; replace ag := am (blk_grown (g := ay) (o := .cells #[.int .u64 ap, .int .u64 aq] 24 (0, 0)) (pk ag.out) hg (Kd.R_ne af.out ag.out (by decide))); replace ae := am (blk_grown (g := ah) (o := .cells #[.string (rdOf ByteArray.empty l1 aa), .int .u64 ao, .int .u64 ((rd_T50 l2 aa).f0), .int .u64 ((rd_T50 l2 aa).f1)] 60 (0, 0)) (pk ae.out) hg (Kd.R_away af.out (fun _ hk => hk))); replace an := am (blk_grown (g := au) (o := .cells #[.int .u64 az, .int .u64 aA] 50 (0, 0)) (pk an.out) hg (Kd.R_ne af.out an.out (by decide))); replace af := am (hp_); replace HB := am ((by rw [hw]; exact below_set (below_set (HB.out) GB43.out) GB43.out : Below w.heap.size w cU)); clear hg hw hp_))
              go_roundg bd
              case measure => have := HK1.out; have := b1.out; have := b6.out; omega
              case rel => exact ⟨(ck), (wrap64 (aa + 1)), (by first | rfl | (simp; done) | (simp [*]; done)), H', ⟨by have := HK1.out; have := b1.out; have := b6.out; omega⟩, ⟨by refine pr ?_; exact Kd.R_mono af.out (fun _ hk => trivial)⟩, ⟨pk ag.out⟩, ⟨pb HB⟩⟩
             ·replace cv := Bool.eq_false_iff.mpr cv;subst cv
              have H1 : (some (([] : List (S60)), false)) = some (r1, r2) := by rw [if_neg (show ¬ (false = true) by decide)] at H; exact H
              clear H;have H := H1;clear H1
              simp only [Option.some.injEq, Prod.mk.injEq] at H
              obtain ⟨rfl, rfl⟩ := H
              try go_wp2
              replace af := am (Kd.R_drew af.out);replace ag := am (blk_drew ag.out);replace ae := am (blk_drew ae.out);replace HB := am (below_drew1 HB.out);obtain ⟨fb, dw, cV⟩ := Kd.R_slice af.out
              (first | subst cV | (injection cV with f1_ f2_ f3_; have f4_ := f1_.symm; have f5_ := f3_.symm; clear f1_ f2_ f3_; subst f4_; subst f5_))
              have bC : 0 ≤ (ac : Int) := of_decide_eq_true (by first | (with_reducible assumption) | assumption);have bD : ac < (ad.length : Int) := of_decide_eq_true (by first | (with_reducible assumption) | assumption);obtain ⟨aj, cl, a_, ba, bb, bc⟩ := at_T60 (Kd.R_reads' af.out).2.2 ac bC bD;cases cl;replace bC := eq_true bC;replace bD := eq_true bD
              refine start_ (n := 14) (S := fun w' => w'.cell? ⟨ah, 0, none⟩ = some (.string (rdOf ByteArray.empty l1 aa)) ∧ w'.cell? ⟨ah, 1, none⟩ = some (.int .u64 ao) ∧ w'.cell? ⟨ah, 2, none⟩ = some (.int .u64 ((rd_T50 l2 aa).f0)) ∧ w'.cell? ⟨ah, 3, none⟩ = some (.int .u64 ((rd_T50 l2 aa).f1)) ∧ w'.cell? (aj.add ((ac).toNat * 4)) = some (.string ((rd_T60 ad ac).f0)) ∧ w'.cell? ⟨(aj.add ((ac).toNat * 4)).block, (aj.add ((ac).toNat * 4)).off + 1, none⟩ = some (.int .u64 ((rd_T60 ad ac).f1)) ∧ w'.cell? ⟨(aj.add ((ac).toNat * 4)).block, (aj.add ((ac).toNat * 4)).off + 2, none⟩ = some (.int .u64 ((rd_T60 ad ac).f2.f0)) ∧ w'.cell? ⟨(aj.add ((ac).toNat * 4)).block, (aj.add ((ac).toNat * 4)).off + 3, none⟩ = some (.int .u64 ((rd_T60 ad ac).f2.f1))) (ds := []) #[false, false, false, false, false, false, false, false, false, false, false, false, false, false] (by kernel_rfl) rfl rfl ⟨ce ae 0, ce ae 1, ce ae 2, ce ae 3, a_, ba, bb, bc⟩ (fun hHeld => ?_); refine with_tabW r14_Model.tab11 r14_Model.bits11 (fun HT_ HW_ => ?_)
              generalize wc.drew = fs at af ag ae HB a_ ba bb bc hHeld ⊢
              refine pu 0 ?_
              refine pu 1 ?_
              refine pu 2 ?_
              refine pu 3 ?_
              refine pu 5 ?_
              refine ta 4 hHeld ?_
              refine ta 6 hHeld ?_
              refine join_ (σ := Nat) 2 #[true, true, true, true, true, true, true, true, true, true, true, true, false, false] (fun s_ => [(76, .tuple #[.agg #[.int .u64 az, .int .u64 aA], .bool false]), (15, .pointer (some ⟨s_, 0, none⟩)), (68, .tuple #[.agg #[.int .u64 az, .int .u64 aA], .bool false]), (77, .agg #[.int .u64 az, .int .u64 aA]), (78, .bool false)]) (fun s_ w' => (w'.cell? ⟨ah, 0, none⟩ = some (.string (rdOf ByteArray.empty l1 aa)) ∧ w'.cell? ⟨ah, 1, none⟩ = some (.int .u64 ao) ∧ w'.cell? ⟨ah, 2, none⟩ = some (.int .u64 ((rd_T50 l2 aa).f0)) ∧ w'.cell? ⟨ah, 3, none⟩ = some (.int .u64 ((rd_T50 l2 aa).f1)) ∧ w'.cell? (aj.add ((ac).toNat * 4)) = some (.string ((rd_T60 ad ac).f0)) ∧ w'.cell? ⟨(aj.add ((ac).toNat * 4)).block, (aj.add ((ac).toNat * 4)).off + 1, none⟩ = some (.int .u64 ((rd_T60 ad ac).f1)) ∧ w'.cell? ⟨(aj.add ((ac).toNat * 4)).block, (aj.add ((ac).toNat * 4)).off + 2, none⟩ = some (.int .u64 ((rd_T60 ad ac).f2.f0)) ∧ w'.cell? ⟨(aj.add ((ac).toNat * 4)).block, (aj.add ((ac).toNat * 4)).off + 3, none⟩ = some (.int .u64 ((rd_T60 ad ac).f2.f1))) ∧ (Kd.R k60 60 w' w.heap.size (fun k_ => k_ ≠ ah) (.slice (some aj) ad.length dw) ad) ∧ (w'.heap[ay]? = some (.cells #[.int .u64 ap, .int .u64 aq] 24 (0, 0))) ∧ (w'.heap[ah]? = some (.cells #[.string (rdOf ByteArray.empty l1 aa), .int .u64 ao, .int .u64 ((rd_T50 l2 aa).f0), .int .u64 ((rd_T50 l2 aa).f1)] 60 (0, 0))) ∧ (w'.heap[s_]? = some (.cells #[.int .u64 0, .int .u64 0] 50 (0, 0))) ∧ (w.heap.size ≤ s_) ∧ (w.heap.size ≤ s_) ∧ (ay ≠ s_) ∧ (s_ ≠ ay) ∧ (ah ≠ s_) ∧ (s_ ≠ ah) ∧ (Below w.heap.size w w')) ?_ ?_
              rotate_left
              ·intro hCont
               refine two_ (i := 7) (j := 11) (Ni := some 76) (Nj := some 15) #[true, true, true, true, true, true, true, true, false, false, false, false, false, false] #[true, true, true, true, true, true, true, false, false, false, false, true, false, false] rfl rfl rfl rfl (two_of HT_.out (by kernel_rfl)) (by decide) (by decide) (fun K hK => ?_) (fun K hK => ?_)
               ·skip
                refine gs Try.func31 #[.agg #[.int .u64 ((rd_T60 ad ac).f2.f0), .int .u64 ((rd_T60 ad ac).f2.f1)], .agg #[.int .u64 ((rd_T50 l2 aa).f0), .int .u64 ((rd_T50 l2 aa).f1)]] ?_
                with_reducible refine (r01_Add.calls ((rd_T60 ad ac).f2.f0) ((rd_T60 ad ac).f2.f1) ((rd_T50 l2 aa).f0) ((rd_T50 l2 aa).f1) az aA false _ cu.out).mono ?_
                rintro e ej ⟨rfl, hb⟩
                have aK := (hb.cell (World.block_lt_of_cell? _ _ (hHeld.2.2.2.2.1))).trans (hHeld.2.2.2.2.1);have aM := (hb.cell (World.block_lt_of_cell? _ _ (hHeld.2.2.2.2.2.1))).trans (hHeld.2.2.2.2.2.1);have aN := (hb.cell (World.block_lt_of_cell? _ _ (hHeld.2.2.2.2.2.2.1))).trans (hHeld.2.2.2.2.2.2.1);have aQ := (hb.cell (World.block_lt_of_cell? _ _ (hHeld.2.2.2.2.2.2.2))).trans (hHeld.2.2.2.2.2.2.2)
                refine ⟨_, rfl, ?_⟩
                replace af := rb af hb;replace ag := kb ag hb;replace ae := kb ae hb;replace HB := lb HB hb
                (try clear hb)
                (try clear hb2)
                (try clear hk)
                (try clear hi)
                refine hK.out _ _ ⟨ce ae 0, ce ae 1, ce ae 2, ce ae 3, aK, aM, aN, aQ⟩ (fun hHeld => ?_)
                clear hK K
                refine nm ?_
                refine pu 8 ?_
                refine pu 9 ?_
                refine pu 10 ?_
                refine on1 11 (fun K hK => ?_)
                refine bx 15 #[.int .u64 0, .int .u64 0] 50 ?_
                intro au hg ek hbox hb
                have aK := (hb.cell (World.block_lt_of_cell? _ _ (hHeld.2.2.2.2.1))).trans (hHeld.2.2.2.2.1);have aM := (hb.cell (World.block_lt_of_cell? _ _ (hHeld.2.2.2.2.2.1))).trans (hHeld.2.2.2.2.2.1);have aN := (hb.cell (World.block_lt_of_cell? _ _ (hHeld.2.2.2.2.2.2.1))).trans (hHeld.2.2.2.2.2.2.1);have aQ := (hb.cell (World.block_lt_of_cell? _ _ (hHeld.2.2.2.2.2.2.2))).trans (hHeld.2.2.2.2.2.2.2);replace af := rb af hb;have an := am (hbox);have a8 := gq hg HB;have a9 := gq hg HB;replace HB := lb HB hb;obtain ⟨ar, aw, -, -⟩ := pm hg ag;replace ag := kb ag hb;obtain ⟨ak, ax, -, -⟩ := pm hg ae;replace ae := kb ae hb;clear hb hbox hg
                refine hK.out _ _ ⟨ce ae 0, ce ae 1, ce ae 2, ce ae 3, aK, aM, aN, aQ⟩ (fun hHeld => ?_)
                clear hK K
                refine nm ?_
                exact nj (hCont (au) _ ⟨hHeld, (pr af.out), (pk ag.out), (pk ae.out), (pk an.out), a8.out, a9.out, ar.out, aw.out, ak.out, ax.out, (pb HB)⟩)
               ·skip
                refine bx 15 #[.int .u64 0, .int .u64 0] 50 ?_
                intro au hg ej hbox hb
                have aK := (hb.cell (World.block_lt_of_cell? _ _ (hHeld.2.2.2.2.1))).trans (hHeld.2.2.2.2.1);have aM := (hb.cell (World.block_lt_of_cell? _ _ (hHeld.2.2.2.2.2.1))).trans (hHeld.2.2.2.2.2.1);have aN := (hb.cell (World.block_lt_of_cell? _ _ (hHeld.2.2.2.2.2.2.1))).trans (hHeld.2.2.2.2.2.2.1);have aQ := (hb.cell (World.block_lt_of_cell? _ _ (hHeld.2.2.2.2.2.2.2))).trans (hHeld.2.2.2.2.2.2.2);replace af := rb af hb;have an := am (hbox);have a8 := gq hg HB;have a9 := gq hg HB;replace HB := lb HB hb;obtain ⟨ar, aw, -, -⟩ := pm hg ag;replace ag := kb ag hb;obtain ⟨ak, ax, -, -⟩ := pm hg ae;replace ae := kb ae hb;clear hb hbox hg
                refine hK.out _ _ ⟨ce ae 0, ce ae 1, ce ae 2, ce ae 3, aK, aM, aN, aQ⟩ (fun hHeld => ?_)
                clear hK K
                refine nm ?_
                refine on1 7 (fun K hK => ?_)
                refine gs Try.func31 #[.agg #[.int .u64 ((rd_T60 ad ac).f2.f0), .int .u64 ((rd_T60 ad ac).f2.f1)], .agg #[.int .u64 ((rd_T50 l2 aa).f0), .int .u64 ((rd_T50 l2 aa).f1)]] ?_
                with_reducible refine (r01_Add.calls ((rd_T60 ad ac).f2.f0) ((rd_T60 ad ac).f2.f1) ((rd_T50 l2 aa).f0) ((rd_T50 l2 aa).f1) az aA false _ cu.out).mono ?_
                rintro e ek ⟨rfl, hb⟩
                have aK := (hb.cell (World.block_lt_of_cell? _ _ (hHeld.2.2.2.2.1))).trans (hHeld.2.2.2.2.1);have aM := (hb.cell (World.block_lt_of_cell? _ _ (hHeld.2.2.2.2.2.1))).trans (hHeld.2.2.2.2.2.1);have aN := (hb.cell (World.block_lt_of_cell? _ _ (hHeld.2.2.2.2.2.2.1))).trans (hHeld.2.2.2.2.2.2.1);have aQ := (hb.cell (World.block_lt_of_cell? _ _ (hHeld.2.2.2.2.2.2.2))).trans (hHeld.2.2.2.2.2.2.2)
                refine ⟨_, rfl, ?_⟩
                replace af := rb af hb;replace ag := kb ag hb;replace ae := kb ae hb;replace an := kb an hb;replace HB := lb HB hb
                (try clear hb)
                (try clear hb2)
                (try clear hk)
                (try clear hi)
                refine hK.out _ _ ⟨ce ae 0, ce ae 1, ce ae 2, ce ae 3, aK, aM, aN, aQ⟩ (fun hHeld => ?_)
                clear hK K
                refine nm ?_
                refine pu 8 ?_
                refine pu 9 ?_
                refine pu 10 ?_
                exact nj (hCont (au) _ ⟨hHeld, (pr af.out), (pk ag.out), (pk ae.out), (pk an.out), a8.out, a9.out, ar.out, aw.out, ak.out, ax.out, (pb HB)⟩)
              rintro au bB ⟨hS_, bn, bo, bp, bq, br, bs, bu, bv, bW, bX, bE⟩
              (try dsimp only at bn bo bp bq br bs bu bv bW bX bE);replace af := am bn;replace ag := am bo;replace ae := am bp;have an := am bq;have a8 := am br;have a9 := am bs;have ar := am bu;have aw := am bv;have ak := am bW;have ax := am bX;replace HB := am bE;clear bn bo bp bq br bs bu bv bW bX bE;have hHeld : bB.cell? ⟨ah, 0, none⟩ = some (.string (rdOf ByteArray.empty l1 aa)) ∧ bB.cell? ⟨ah, 1, none⟩ = some (.int .u64 ao) ∧ bB.cell? ⟨ah, 2, none⟩ = some (.int .u64 ((rd_T50 l2 aa).f0)) ∧ bB.cell? ⟨ah, 3, none⟩ = some (.int .u64 ((rd_T50 l2 aa).f1)) ∧ bB.cell? (aj.add ((ac).toNat * 4)) = some (.string ((rd_T60 ad ac).f0)) ∧ bB.cell? ⟨(aj.add ((ac).toNat * 4)).block, (aj.add ((ac).toNat * 4)).off + 1, none⟩ = some (.int .u64 ((rd_T60 ad ac).f1)) ∧ bB.cell? ⟨(aj.add ((ac).toNat * 4)).block, (aj.add ((ac).toNat * 4)).off + 2, none⟩ = some (.int .u64 ((rd_T60 ad ac).f2.f0)) ∧ bB.cell? ⟨(aj.add ((ac).toNat * 4)).block, (aj.add ((ac).toNat * 4)).off + 3, none⟩ = some (.int .u64 ((rd_T60 ad ac).f2.f1)) := hS_
              refine norm_ (a' := ?_) ?_ ?_
              rotate_left
              ·simp only [putAll, Act.put, List.setIfInBounds_toArray, List.set_cons_zero, List.set_cons_succ]
               rfl
              refine one_ (i := 12) (N := none) #[true, true, true, true, true, true, true, true, true, true, true, true, true, false] rfl rfl (one_of HT_.out (by kernel_rfl)) (by decide) (fun K hK => ?_)
              have fc : bB.cell? ⟨au, 0, none⟩ = some (.int .u64 0) := ce an 0;have eD := blk_frozen an.out 0;have dR := ar.out;have dS := ak.out;have hms62_0 := aw.out;have hms62_1 := ax.out;have fd : bB.cell? ⟨au, 1, none⟩ = some (.int .u64 0) := ce an 1;have eE := blk_frozen an.out 1;have dT := ar.out;have dU := ak.out;have hms63_0 := aw.out;have hms63_1 := ax.out
              refine skip_ (w1 := ?_) (by rfl) rfl ?_ ?_
              rotate_left
              ·go_simp
               rfl
              refine hK.out _ _ ⟨(q2 ak.out hHeld.1), (q2 ak.out hHeld.2.1), (q2 ak.out hHeld.2.2.1), (q2 ak.out hHeld.2.2.2.1), (q2 (ab (Kd.own_blk (Kd.R_ne af.out an.out (by decide)))) hHeld.2.2.2.2.1), (q2 (ab (Kd.own_blk (Kd.R_ne af.out an.out (by decide)))) hHeld.2.2.2.2.2.1), (q2 (ab (Kd.own_blk (Kd.R_ne af.out an.out (by decide)))) hHeld.2.2.2.2.2.2.1), (q2 (ab (Kd.own_blk (Kd.R_ne af.out an.out (by decide)))) hHeld.2.2.2.2.2.2.2)⟩ (fun hHeld => ?_)
              clear hK K
              refine pu 13 ?_
              refine done_ (done_of HT_.out (by kernel_rfl)) ?_
              try go_wp2
              go_ret2
              exact ⟨_, by first | rfl | (simp [errW_none, errW_some] <;> rfl) | (simp [*, errW_none, errW_some] <;> rfl), by first | exact Kd.R_nil _ _ _ _ _ | exact Kd.N_nil _ _ _ _ _ | exact Kd.V_nil _ _ _ _ _ | exact Kd.Q_nil _ _ _ _ _ | exact Kd.S_nil _ _ _ _ _, pb HB⟩
            ·rw [if_neg ct] at H;exact absurd H (by simp)
           ·rw [if_neg cr] at H;exact absurd H (by simp)
          ·replace cq := Bool.eq_false_iff.mpr cq;subst cq
           have H1 : (if 0 ≤ ac then (if ac ≤ (ad.length : Int) then ((some (ad.take (ac : Int).toNat : List (S60))).bind fun aT => (if ([] : List (S60)).length + aT.length < 3518437208883 then ((some (([] : List (S60)) ++ aT : List (S60))).bind fun bg => (if bg.length < 3518437208883 then ((some (bg ++ [(⟨(rdOf ByteArray.empty l1 aa), ao, (⟨((rd_T50 l2 aa).f0), ((rd_T50 l2 aa).f1)⟩ : S50)⟩ : S60)] : List (S60))).bind fun aU => ((some (ad.drop (ac : Int).toNat : List (S60))).bind fun aC => (if aU.length + aC.length < 3518437208883 then (r14_Model.l0 bd l1 l2 a3 (aU ++ aC) (wrap64 (aa + 1)) ap aq) else (none)))) else (none))) else (none))) else (none)) else (none)) = some (r1, r2) := by rw [if_neg (show ¬ (false = true) by decide)] at H; exact H
           clear H;have H := H1;clear H1
           by_cases ca : 0 ≤ ac
           ·rw [if_pos ca] at H;have eF := eq_true ca;have eG : decide (0 ≤ ac) = true := decide_eq_true ca;clear ca
            by_cases cb : ac ≤ (ad.length : Int)
            ·rw [if_pos cb] at H;have eH := eq_true cb;have eI : decide (ac ≤ (ad.length : Int)) = true := decide_eq_true cb;clear cb;obtain ⟨aT, hy323⟩ : ∃ y_ : List (S60), y_ = (ad.take (ac : Int).toNat) := ⟨_, rfl⟩
             replace H : (if ([] : List (S60)).length + aT.length < 3518437208883 then ((some (([] : List (S60)) ++ aT : List (S60))).bind fun bg => (if bg.length < 3518437208883 then ((some (bg ++ [(⟨(rdOf ByteArray.empty l1 aa), ao, (⟨((rd_T50 l2 aa).f0), ((rd_T50 l2 aa).f1)⟩ : S50)⟩ : S60)] : List (S60))).bind fun aU => ((some (ad.drop (ac : Int).toNat : List (S60))).bind fun aC => (if aU.length + aC.length < 3518437208883 then (r14_Model.l0 bd l1 l2 a3 (aU ++ aC) (wrap64 (aa + 1)) ap aq) else (none)))) else (none))) else (none)) = some (r1, r2) := by first | (rw [hy323]; with_reducible exact H) | (have H2_ := (Option.bind_some _ _).symm.trans H; rw [hy323]; with_reducible exact H2_) | (have H2_ := (Option.bind_some _ _).symm.trans H; with_reducible exact H2_) | with_reducible exact H | (rw [hy323]; exact H) | exact H
             have Ny323 := am hy323;clear hy323
             by_cases cw : ([] : List (S60)).length + aT.length < 3518437208883
             ·rw [if_pos cw] at H;have LMc66 := am cw;clear cw;obtain ⟨bg, hy327⟩ : ∃ y_ : List (S60), y_ = (([] : List (S60)) ++ aT) := ⟨_, rfl⟩
              replace H : (if bg.length < 3518437208883 then ((some (bg ++ [(⟨(rdOf ByteArray.empty l1 aa), ao, (⟨((rd_T50 l2 aa).f0), ((rd_T50 l2 aa).f1)⟩ : S50)⟩ : S60)] : List (S60))).bind fun aU => ((some (ad.drop (ac : Int).toNat : List (S60))).bind fun aC => (if aU.length + aC.length < 3518437208883 then (r14_Model.l0 bd l1 l2 a3 (aU ++ aC) (wrap64 (aa + 1)) ap aq) else (none)))) else (none)) = some (r1, r2) := by first | (rw [hy327]; with_reducible exact H) | (have H2_ := (Option.bind_some _ _).symm.trans H; rw [hy327]; with_reducible exact H2_) | (have H2_ := (Option.bind_some _ _).symm.trans H; with_reducible exact H2_) | with_reducible exact H | (rw [hy327]; exact H) | exact H
              have Ny327 := am hy327;clear hy327
              by_cases cx : bg.length < 3518437208883
              ·rw [if_pos cx] at H;have LMc67 := am cx;clear cx;obtain ⟨aU, hy330⟩ : ∃ y_ : List (S60), y_ = (bg ++ [(⟨(rdOf ByteArray.empty l1 aa), ao, (⟨((rd_T50 l2 aa).f0), ((rd_T50 l2 aa).f1)⟩ : S50)⟩ : S60)]) := ⟨_, rfl⟩
               replace H : ((some (ad.drop (ac : Int).toNat : List (S60))).bind fun aC => (if aU.length + aC.length < 3518437208883 then (r14_Model.l0 bd l1 l2 a3 (aU ++ aC) (wrap64 (aa + 1)) ap aq) else (none))) = some (r1, r2) := by first | (rw [hy330]; with_reducible exact H) | (have H2_ := (Option.bind_some _ _).symm.trans H; rw [hy330]; with_reducible exact H2_) | (have H2_ := (Option.bind_some _ _).symm.trans H; with_reducible exact H2_) | with_reducible exact H | (rw [hy330]; exact H) | exact H
               have Ny330 := am hy330;clear hy330;have eJ := eq_true (of_decide_eq_true (by first | (with_reducible assumption) | assumption) : 0 ≤ ac);have eK := eq_true (of_decide_eq_true (by first | (with_reducible assumption) | assumption) : ac ≤ (ad.length : Int));obtain ⟨aC, hy333⟩ : ∃ y_ : List (S60), y_ = (ad.drop (ac : Int).toNat) := ⟨_, rfl⟩
               replace H : (if aU.length + aC.length < 3518437208883 then (r14_Model.l0 bd l1 l2 a3 (aU ++ aC) (wrap64 (aa + 1)) ap aq) else (none)) = some (r1, r2) := by first | (rw [hy333]; with_reducible exact H) | (have H2_ := (Option.bind_some _ _).symm.trans H; rw [hy333]; with_reducible exact H2_) | (have H2_ := (Option.bind_some _ _).symm.trans H; with_reducible exact H2_) | with_reducible exact H | (rw [hy333]; exact H) | exact H
               have Ny333 := am hy333;clear hy333
               by_cases cy : aU.length + aC.length < 3518437208883
               ·rw [if_pos cy] at H;have LMc70 := am cy;clear cy;obtain ⟨cW, hy337⟩ : ∃ y_ : List (S60), y_ = (aU ++ aC) := ⟨_, rfl⟩
                replace H : (r14_Model.l0 bd l1 l2 a3 cW (wrap64 (aa + 1)) ap aq) = some (r1, r2) := by first | (rw [hy337]; with_reducible exact H) | (have H2_ := (Option.bind_some _ _).symm.trans H; rw [hy337]; with_reducible exact H2_) | (have H2_ := (Option.bind_some _ _).symm.trans H; with_reducible exact H2_) | with_reducible exact H | (rw [hy337]; exact H) | exact H
                have Ny337 := am hy337;clear hy337;have H' := am H;clear H;obtain ⟨a4, a5, dx⟩ := Kd.R_slice af.out;subst dx;have cX : (ac : Int) ≤ ((ad.length : Int) : Int) := of_decide_eq_true (by first | (with_reducible assumption) | assumption);obtain ⟨i071, cz, _, hsz71, _⟩ := info_parts info60;have hroom71 : ad.length ≤ a5 := (Kd.R_reads' af.out).2.1;have hC71 : Kd.C k60 _ a4 ad.length ad := (Kd.R_reads' af.out).2.2;have hcut71 := cut_to (P := Try.prog) 28 60 .i64 Try.underlying28 cz a4 ad.length a5 ac (of_decide_eq_true (by first | (with_reducible assumption) | assumption)) cX hroom71;have cm := Kd.C_take (m := (ac : Int).toNat) hC71 (by omega);have hy71 : aT.length = (ac : Int).toNat := (by rw [Ny323.out, List.length_take]; omega);rw [← Ny323.out] at cm;rw [← hy71] at hcut71;have bG := am cm;have eL := am (show aT.length ≤ a5 from by omega);clear cm hC71 hroom71 cz hsz71;have KY71 := am hy71;clear hy71;have KL71 := am (show (ac : Int).toNat ≤ ad.length from by omega);replace cX := eq_true cX
                go_wp2_with (first | ((with_reducible refine gate_builtin (b := .append) (xs := #[.tmp 86, .tmp 89]) rfl ?_); at_builtin; refine Kd.R_append_rows k60 (w0 := w) w.heap.size rfl (.tmp 86) (.tmp 89) 28 60 (.agg #[(.string ⟨#[]⟩), (.int .u64 0), (.int .u64 0), (.int .u64 0)]) 40 rfl Try.underlying28 info60 rfl (by decide) (by omega) (.slice none 0 0) ([] : List (S60)) aT _ _ _ (fun k_ => some k_ ≠ (.slice a4 ad.length a5 : Value).ownBlock ∧ k_ ≠ ah) (fun _ => False) rfl rfl ?aO ?aR (fun _ _ h => h) (fun _ h => h.elim) ?aF ?aB ?aS ?aL ?_; (case aR => repeat (first | exact (by repeat (first | (with_reducible exact bG.out) | (with_reducible refine Kd.C_alloc ?_ _) | (with_reducible refine Kd.C_drewN ?_ _) | (with_reducible refine Kd.C_drew ?_) | exact bG.out)) | (with_reducible refine Kd.C_alloc ?_ _) | (with_reducible refine Kd.C_drewN ?_ _) | (with_reducible refine Kd.C_drew ?_))); (case aB => exact (pb HB)); (case aF => exact (fun k_ hk => ⟨Kd.fresh' (Kd.R_lt (pr af.out)) k_ hk, Kd.freshB (g := ah) (o := .cells #[.string (rdOf ByteArray.empty l1 aa), .int .u64 ao, .int .u64 ((rd_T50 l2 aa).f0), .int .u64 ((rd_T50 l2 aa).f1)] 60 (0, 0)) (pk ae.out) k_ hk⟩)); (case aO => exact ((Kd.R_nil _ _ _ _ (fun k_ => some k_ ≠ (.slice a4 ad.length a5 : Value).ownBlock ∧ k_ ≠ ah)))); (case aS => exact (below_size (pb HB))); (case aL => have := LMc66.out; omega); intro dy em ho hb hg hat; rw [← Ny327.out] at ho; replace ag := am (blk_grown (g := ay) (o := .cells #[.int .u64 ap, .int .u64 aq] 24 (0, 0)) (pk ag.out) hg (by simp [Value.ownBlock])); replace ae := am (blk_grown (g := ah) (o := .cells #[.string (rdOf ByteArray.empty l1 aa), .int .u64 ao, .int .u64 ((rd_T50 l2 aa).f0), .int .u64 ((rd_T50 l2 aa).f1)] 60 (0, 0)) (pk ae.out) hg (by simp [Value.ownBlock])); replace HB := am (hb); replace bG := am ((show Kd.C k60 em a4 aT.length aT from by rw [Ny323.out]; exact Kd.C_take (m := (ac : Int).toNat) ((Kd.R_reads' (Kd.R_after (Kd.R_apart_nil (pr af.out)) hg hat)).2.2) KL71.out)); replace af := am (Kd.R_after (Kd.R_apart_nil (pr af.out)) hg hat); have bT := am (ho); clear ho hb hg hat; have eM := aD.out; have eN := av.out; obtain ⟨dV, dW, dX, dY, dZ, d0, d1, d2⟩ := g4 ae) | ((with_reducible refine gate_builtin (b := .append) (xs := #[.tmp 91, .tmp 93]) rfl ?_); at_builtin; refine Kd.R_append k60 (w0 := w) w.heap.size rfl (.tmp 91) (.tmp 93) 28 60 (.agg #[(.string ⟨#[]⟩), (.int .u64 0), (.int .u64 0), (.int .u64 0)]) 40 rfl Try.underlying28 info60 rfl (by decide) (by omega) dy bg (⟨(rdOf ByteArray.empty l1 aa), ao, (⟨((rd_T50 l2 aa).f0), ((rd_T50 l2 aa).f1)⟩ : S50)⟩ : S60) [.string (rdOf ByteArray.empty l1 aa), .int .u64 ao, .int .u64 ((rd_T50 l2 aa).f0), .int .u64 ((rd_T50 l2 aa).f1)] (fun k_ => some k_ ≠ (.slice a4 ad.length a5 : Value).ownBlock ∧ k_ ≠ ah) (fun _ => False) rfl rfl ?aP (fun _ hk => hk.elim) ?aF ?aO ?aB ?aS ?aL ?_; (case aP => exact k60_mkM _ _ _ (⟨(rdOf ByteArray.empty l1 aa), ao, (⟨((rd_T50 l2 aa).f0), ((rd_T50 l2 aa).f1)⟩ : S50)⟩ : S60)); (case aB => exact (pb HB)); (case aF => exact (fun k_ hk => ⟨Kd.fresh' (Kd.R_lt (pr af.out)) k_ hk, Kd.freshB (g := ah) (o := .cells #[.string (rdOf ByteArray.empty l1 aa), .int .u64 ao, .int .u64 ((rd_T50 l2 aa).f0), .int .u64 ((rd_T50 l2 aa).f1)] 60 (0, 0)) (pk ae.out) k_ hk⟩)); (case aO => exact (pr bT.out)); (case aS => exact (below_size (pb HB))); (case aL => have := LMc67.out; omega); intro dz en ho hb hg hat; rw [← Ny330.out] at ho; replace ag := am (blk_grown (g := ay) (o := .cells #[.int .u64 ap, .int .u64 aq] 24 (0, 0)) (pk ag.out) hg (Kd.R_ne bT.out ag.out (by decide))); replace ae := am (blk_grown (g := ah) (o := .cells #[.string (rdOf ByteArray.empty l1 aa), .int .u64 ao, .int .u64 ((rd_T50 l2 aa).f0), .int .u64 ((rd_T50 l2 aa).f1)] 60 (0, 0)) (pk ae.out) hg (Kd.R_away bT.out (fun _ hk => hk.2))); replace HB := am (hb); replace bG := am ((show Kd.C k60 en a4 aT.length aT from by rw [Ny323.out]; exact Kd.C_take (m := (ac : Int).toNat) ((Kd.R_reads' (Kd.R_after (ok := (fun k_ => k_ ≠ ah)) (pr af.out) hg hat)).2.2) KL71.out)); replace af := am (Kd.R_after (ok := (fun k_ => k_ ≠ ah)) (pr af.out) hg hat); have bU := am (ho); clear bT; clear ho hb hg hat; have cY : (ac : Int) ≤ ((ad.length : Int) : Int) := of_decide_eq_true (by first | (with_reducible assumption) | assumption); obtain ⟨i077, cA, _, hsz77, _⟩ := info_parts info60; have hroom77 : ad.length ≤ a5 := (Kd.R_reads' af.out).2.1; have hC77 : Kd.C k60 _ a4 ad.length ad := (Kd.R_reads' af.out).2.2; have dA : (0 : Int) ≤ (ac : Int) := of_decide_eq_true (by first | (with_reducible assumption) | assumption); have hcut77 := cut_from (P := Try.prog) 28 60 .i64 Try.underlying28 cA 4 hsz77 a4 ad.length a5 ac dA cY; have bY := Kd.C_drop (m := (ac : Int).toNat) (c := a5) hC77 (by omega) hroom77; obtain ⟨dm, hA77⟩ : ∃ A1, A1 = (if a5 = (ac : Int).toNat then a4 else (a4 : Option Addr).map (·.add ((ac : Int).toNat * 4))) := ⟨_, rfl⟩; obtain ⟨eo, cn⟩ : ∃ c1, c1 = a5 - (ac : Int).toNat := ⟨_, rfl⟩; have hy77 : aC.length = ad.length - (ac : Int).toNat := (by rw [Ny333.out, List.length_drop] <;> omega); rw [show (ad).drop (ac : Int).toNat = aC from Ny333.out.symm] at bY; replace bY : Kd.C k60 _ dm aC.length aC := (by rw [hA77]; exact bY); rw [← hy77, ← hA77, ← cn] at hcut77; have b8 := am bY; have eO := am (show aC.length ≤ eo from by rw [hy77, cn]; exact Nat.sub_le_sub_right hroom77 _); clear bY hC77 hroom77 cA hsz77 cn; have KY77 := am hy77; have KA77 := am hA77; clear hy77 hA77; have KL77 := am (show (ac : Int).toNat ≤ ad.length from by omega); replace cY := eq_true cY) | ((with_reducible refine gate_builtin (b := .append) (xs := #[.tmp 95, .tmp 98]) rfl ?_); at_builtin; refine Kd.R_append_rows k60 (w0 := w) w.heap.size rfl (.tmp 95) (.tmp 98) 28 60 (.agg #[(.string ⟨#[]⟩), (.int .u64 0), (.int .u64 0), (.int .u64 0)]) 40 rfl Try.underlying28 info60 rfl (by decide) (by omega) dz aU aC _ _ _ (fun k_ => some k_ ≠ (.slice a4 ad.length a5 : Value).ownBlock ∧ k_ ≠ ah) (fun _ => False) rfl rfl ?aO ?aR (fun _ _ h => h) (fun _ h => h.elim) ?aF ?aB ?aS ?aL ?_; (case aR => repeat (first | exact (by repeat (first | (with_reducible exact b8.out) | (with_reducible refine Kd.C_alloc ?_ _) | (with_reducible refine Kd.C_drewN ?_ _) | (with_reducible refine Kd.C_drew ?_) | exact b8.out)) | (with_reducible refine Kd.C_alloc ?_ _) | (with_reducible refine Kd.C_drewN ?_ _) | (with_reducible refine Kd.C_drew ?_))); (case aB => exact (pb HB)); (case aF => exact (fun k_ hk => ⟨Kd.fresh' (Kd.R_lt (pr af.out)) k_ hk, Kd.freshB (g := ah) (o := .cells #[.string (rdOf ByteArray.empty l1 aa), .int .u64 ao, .int .u64 ((rd_T50 l2 aa).f0), .int .u64 ((rd_T50 l2 aa).f1)] 60 (0, 0)) (pk ae.out) k_ hk⟩)); (case aO => exact (pr bU.out)); (case aS => exact (below_size (pb HB))); (case aL => have := LMc70.out; omega); intro fe dn ho hb hg hat; rw [← Ny337.out] at ho; replace ag := am (blk_grown (g := ay) (o := .cells #[.int .u64 ap, .int .u64 aq] 24 (0, 0)) (pk ag.out) hg (Kd.R_ne bU.out ag.out (by decide))); replace ae := am (blk_grown (g := ah) (o := .cells #[.string (rdOf ByteArray.empty l1 aa), .int .u64 ao, .int .u64 ((rd_T50 l2 aa).f0), .int .u64 ((rd_T50 l2 aa).f1)] 60 (0, 0)) (pk ae.out) hg (Kd.R_away bU.out (fun _ hk => hk.2))); replace HB := am (hb); replace bG := am ((show Kd.C k60 dn a4 aT.length aT from by rw [Ny323.out]; exact Kd.C_take (m := (ac : Int).toNat) ((Kd.R_reads' (Kd.R_after (ok := (fun k_ => k_ ≠ ah)) (pr af.out) hg hat)).2.2) KL71.out)); replace b8 := am ((show Kd.C k60 dn dm aC.length aC from by rw [Ny333.out, KA77.out]; exact Kd.C_drop (m := (ac : Int).toNat) (c := a5) ((Kd.R_reads' (Kd.R_after (ok := (fun k_ => k_ ≠ ah)) (pr af.out) hg hat)).2.2) KL77.out ((Kd.R_reads' (Kd.R_after (ok := (fun k_ => k_ ≠ ah)) (pr af.out) hg hat)).2.1))); replace af := am (Kd.R_after (ok := (fun k_ => k_ ≠ ah)) (pr af.out) hg hat); have db := am (ho); clear bU; clear ho hb hg hat))
                go_roundg bd
                case measure => have := HK1.out; have := b1.out; have := b6.out; omega
                case rel => exact ⟨(cW), (wrap64 (aa + 1)), (by first | rfl | (simp; done) | (simp [*]; done)), H', ⟨by have := HK1.out; have := b1.out; have := b6.out; omega⟩, ⟨by refine pr ?_; exact Kd.R_mono db.out (fun _ hk => trivial)⟩, ⟨pk ag.out⟩, ⟨pb HB⟩⟩
               ·rw [if_neg cy] at H;exact absurd H (by simp)
              ·rw [if_neg cx] at H;exact absurd H (by simp)
             ·rw [if_neg cw] at H;exact absurd H (by simp)
            ·rw [if_neg cb] at H;exact absurd H (by simp)
           ·rw [if_neg ca] at H;exact absurd H (by simp)
     ·rw [if_neg c9] at H;exact absurd H (by simp)
    ·rw [if_neg c7] at H;exact absurd H (by simp)
   ·rw [if_neg c6] at H;have b3 : decide (aa < (l1.length : Int)) = false := decide_eq_false c6;clear c6
    by_cases b2 : (ad.length : Int) > a3
    ·rw [if_pos b2] at H;have dc : decide (a3 < (ad.length : Int)) = true := decide_eq_true b2;clear b2
     by_cases cc : 0 ≤ a3
     ·rw [if_pos cc] at H;have eP := eq_true cc;have eQ : decide (0 ≤ a3) = true := decide_eq_true cc;clear cc
      by_cases cd : a3 ≤ (ad.length : Int)
      ·rw [if_pos cd] at H;have eR := eq_true cd;have eS : decide (a3 ≤ (ad.length : Int)) = true := decide_eq_true cd;clear cd;obtain ⟨cZ, hy306⟩ : ∃ y_ : List (S60), y_ = (ad.take (a3 : Int).toNat) := ⟨_, rfl⟩
       replace H : (some (cZ, true)) = some (r1, r2) := by first | (rw [hy306]; with_reducible exact H) | (have H2_ := (Option.bind_some _ _).symm.trans H; rw [hy306]; with_reducible exact H2_) | (have H2_ := (Option.bind_some _ _).symm.trans H; with_reducible exact H2_) | with_reducible exact H | (rw [hy306]; exact H) | exact H
       have Ny306 := am hy306;clear hy306
       simp only [Option.some.injEq, Prod.mk.injEq] at H
       obtain ⟨rfl, rfl⟩ := H;obtain ⟨dB, dC, dD⟩ := Kd.R_slice af.out;subst dD;have c0 : (a3 : Int) ≤ ((ad.length : Int) : Int) := of_decide_eq_true (by first | (with_reducible assumption) | assumption);obtain ⟨i083, cB, _, hsz83, _⟩ := info_parts info60;have hcut83 := cut_to (P := Try.prog) 28 60 .i64 Try.underlying28 cB dB ad.length dC a3 (of_decide_eq_true (by first | (with_reducible assumption) | assumption)) c0 (Kd.R_reads' af.out).2.1;have b9 := Kd.R_take (m := (a3 : Int).toNat) af.out (by omega);have hy83 : cZ.length = (a3 : Int).toNat := (by rw [Ny306.out, List.length_take]; omega);rw [← Ny306.out] at b9;rw [← hy83] at b9 hcut83;clear hy83 cB hsz83 af;have dd := am b9;clear b9;replace c0 := eq_true c0
       go_wp2
       go_ret2
       exact ⟨_, by first | rfl | (simp [errW_none, errW_some] <;> rfl) | (simp [*, errW_none, errW_some] <;> rfl), by refine pr ?_; exact dd.out, pb HB⟩
      ·rw [if_neg cd] at H;exact absurd H (by simp)
     ·rw [if_neg cc] at H;exact absurd H (by simp)
    ·rw [if_neg b2] at H;have dc : decide (a3 < (ad.length : Int)) = false := decide_eq_false b2;clear b2
     simp only [Option.some.injEq, Prod.mk.injEq] at H
     obtain ⟨rfl, rfl⟩ := H;obtain ⟨ff, fg, dE⟩ := Kd.R_slice af.out;subst dE
     go_wp2
     go_ret2
     exact ⟨_, by first | rfl | (simp [errW_none, errW_some] <;> rfl) | (simp [*, errW_none, errW_some] <;> rfl), by refine pr ?_; exact af.out, pb HB⟩
end Go.Proofs.Ytmfffbafldbihaa.H
