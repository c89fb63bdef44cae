import Derived.Test.YtojpmjkphgjmgaaHx0
import Derived.Test.YtojpmjkphgjmgaaHx12
import Derived.Test.YtojpmjkphgjmgaaHx13
namespace Go.Proofs.Ytojpmjkphgjmgaa.H
open Go.RowKit Go.Proofs.YtojpmjkphgjmgaaW.PrintWords Go.Proofs.YtojpmjkphgjmgaaW.PrintLast Go.Proofs.YtojpmjkphgjmgaaW.PrintMore Go.Proofs.YtojpmjkphgjmgaaW.Sq
attribute [local go_sem] max2_int min2_int max_two min_two max_three min_three max_four min_four
set_option linter.unusedVariables false
set_option linter.unusedSimpArgs false

mutual
def r12_Right.j0 : Nat → Int → Bool → Int → Int → List (S46) → Option (Bool)
 | 0, _, _, _, _, _ => none
 | k + 1, x3, x20, x308000, x308001, x308002 => if x20 = true then (some false) else (r12_Right.l0 k x3 0 x308000 x308001 x308002)
def r12_Right.l0 : Nat → Int → Int → Int → Int → List (S46) → Option (Bool)
 | 0, _, _, _, _, _ => none
 | k + 1, x3, x4, x308000, x308001, x308002 => if x4 < x3 then (if 0 ≤ x4 then (if x4 < (x308002.length : Int) then (if ((rd_T46 x308002 x4).f0 = true) then (if (((rd_T46 x308002 x4).f1).size : Int) > 64 then (r12_Right.j2 k x3 x4 true x308000 x308001 x308002 ((rd_T46 x308002 x4).f0) ((rd_T46 x308002 x4).f1) ((rd_T46 x308002 x4).f2)) else (if ((rd_T46 x308002 x4).f2) < 0 then (r12_Right.j2 k x3 x4 true x308000 x308001 x308002 ((rd_T46 x308002 x4).f0) ((rd_T46 x308002 x4).f1) ((rd_T46 x308002 x4).f2)) else (r12_Right.j2 k x3 x4 (decide (((rd_T46 x308002 x4).f2) > 2147483647)) x308000 x308001 x308002 ((rd_T46 x308002 x4).f0) ((rd_T46 x308002 x4).f1) ((rd_T46 x308002 x4).f2)))) else (if ((rd_T46 x308002 x4).f1).toList = ([] : List UInt8) then (if ((rd_T46 x308002 x4).f2) = 0 then (r12_Right.l0 k x3 (wrap64 (x4 + 1)) x308000 x308001 x308002) else (some false)) else (some false))) else (none)) else (none)) else (some true)
def r12_Right.j2 : Nat → Int → Int → Bool → Int → Int → List (S46) → Bool → ByteArray → Int → Option (Bool)
 | 0, _, _, _, _, _, _, _, _, _ => none
 | k + 1, x3, x4, x55, x308000, x308001, x308002, x312000, x312001, x312002 => if x55 = true then (some false) else ((r12_Home.f k x308000 x308001 x308002 x312001).bind fun t312 => (r12_Right.l1 k x3 x4 t312 x308000 x308001 x308002 x312000 x312001 x312002))
def r12_Right.l1 : Nat → Int → Int → Int → Int → Int → List (S46) → Bool → ByteArray → Int → Option (Bool)
 | 0, _, _, _, _, _, _, _, _, _ => none
 | k + 1, x3, x4, x6, x308000, x308001, x308002, x312000, x312001, x312002 => if x6 = x4 then (r12_Right.l2 k x3 x4 0 x308000 x308001 x308002 x312000 x312001 x312002) else (if 0 ≤ x6 then (if x6 < (x308002.length : Int) then (if ((rd_T46 x308002 x6).f0 = true) then (if ((rd_T46 x308002 x6).f1).toList = x312001.toList then (some false) else (if x3 = 0 then (none) else (r12_Right.l1 k x3 x4 (Int.tmod (wrap64 (x6 + 1)) x3) x308000 x308001 x308002 x312000 x312001 x312002))) else (some false)) else (none)) else (none))
def r12_Right.l2 : Nat → Int → Int → Int → Int → Int → List (S46) → Bool → ByteArray → Int → Option (Bool)
 | 0, _, _, _, _, _, _, _, _, _ => none
 | k + 1, x3, x4, x7, x308000, x308001, x308002, x312000, x312001, x312002 => if x7 < x4 then (if 0 ≤ x7 then (if x7 < (x308002.length : Int) then (if (rd_T46 x308002 x7).f0 = true then (if ((rd_T46 x308002 x7).f1).toList = x312001.toList then (some false) else (r12_Right.l2 k x3 x4 (wrap64 (x7 + 1)) x308000 x308001 x308002 x312000 x312001 x312002)) else (r12_Right.l2 k x3 x4 (wrap64 (x7 + 1)) x308000 x308001 x308002 x312000 x312001 x312002)) else (none)) else (none)) else (r12_Right.l0 k x3 (wrap64 (x4 + 1)) x308000 x308001 x308002)
end
def r12_Right.f (k : Nat) (a0_0 : Int) (a0_1 : Int) (l0_2 : List (S46)) : Option (Bool) := (r12_power.f k (l0_2.length : Int)).bind fun t308 => (if t308 = true then ((r12_Many.f k a0_0 a0_1 l0_2).bind fun t309 => (r12_Right.j0 k (l0_2.length : Int) (decide (t309 > (wrap64 ((l0_2.length : Int) / 2)))) a0_0 a0_1 l0_2)) else (r12_Right.j0 k (l0_2.length : Int) true a0_0 a0_1 l0_2))
theorem r12_Right.mono_l : ∀ k, (∀ y0 y1 y2 y3 y4, LeO (r12_Right.j0 k y0 y1 y2 y3 y4) (r12_Right.j0 (k + 1) y0 y1 y2 y3 y4)) ∧ (∀ y0 y1 y2 y3 y4, LeO (r12_Right.l0 k y0 y1 y2 y3 y4) (r12_Right.l0 (k + 1) y0 y1 y2 y3 y4)) ∧ (∀ y0 y1 y2 y3 y4 y5 y6 y7 y8, LeO (r12_Right.j2 k y0 y1 y2 y3 y4 y5 y6 y7 y8) (r12_Right.j2 (k + 1) y0 y1 y2 y3 y4 y5 y6 y7 y8)) ∧ (∀ y0 y1 y2 y3 y4 y5 y6 y7 y8, LeO (r12_Right.l1 k y0 y1 y2 y3 y4 y5 y6 y7 y8) (r12_Right.l1 (k + 1) y0 y1 y2 y3 y4 y5 y6 y7 y8)) ∧ (∀ y0 y1 y2 y3 y4 y5 y6 y7 y8, LeO (r12_Right.l2 k y0 y1 y2 y3 y4 y5 y6 y7 y8) (r12_Right.l2 (k + 1) y0 y1 y2 y3 y4 y5 y6 y7 y8))
 | 0 => ⟨fun _ _ _ _ _ r h => by simp [r12_Right.j0] at h, fun _ _ _ _ _ r h => by simp [r12_Right.l0] at h, fun _ _ _ _ _ _ _ _ _ r h => by simp [r12_Right.j2] at h, fun _ _ _ _ _ _ _ _ _ r h => by simp [r12_Right.l1] at h, fun _ _ _ _ _ _ _ _ _ r h => by simp [r12_Right.l2] at h⟩
 | k + 1 => by
  obtain ⟨ih0, ih1, ih2, ih3, ih4⟩ := r12_Right.mono_l k
  refine ⟨?_, ?_, ?_, ?_, ?_⟩
  ·intro y0 y1 y2 y3 y4
   unfold r12_Right.j0
   repeat' first
   | (with_reducible exact ih0 _ _ _ _ _)
   | (with_reducible exact ih1 _ _ _ _ _)
   | (with_reducible exact ih2 _ _ _ _ _ _ _ _ _)
   | (with_reducible exact ih3 _ _ _ _ _ _ _ _ _)
   | (with_reducible exact ih4 _ _ _ _ _ _ _ _ _)
   | (with_reducible exact r12_Home.mono _ _ _ _ _)
   | (with_reducible exact r12_Many.mono _ _ _ _)
   | (with_reducible exact r12_power.mono _ _)
   | (with_reducible exact LeO.refl _)
   | (with_reducible exact LeO.none _)
   | (with_reducible refine LeO.ite ?_ ?_)
   | (with_reducible refine LeO.bind ?_ (fun _ => ?_))
  ·intro y0 y1 y2 y3 y4
   unfold r12_Right.l0
   repeat' first
   | (with_reducible exact ih0 _ _ _ _ _)
   | (with_reducible exact ih1 _ _ _ _ _)
   | (with_reducible exact ih2 _ _ _ _ _ _ _ _ _)
   | (with_reducible exact ih3 _ _ _ _ _ _ _ _ _)
   | (with_reducible exact ih4 _ _ _ _ _ _ _ _ _)
   | (with_reducible exact r12_Home.mono _ _ _ _ _)
   | (with_reducible exact r12_Many.mono _ _ _ _)
   | (with_reducible exact r12_power.mono _ _)
   | (with_reducible exact LeO.refl _)
   | (with_reducible exact LeO.none _)
   | (with_reducible refine LeO.ite ?_ ?_)
   | (with_reducible refine LeO.bind ?_ (fun _ => ?_))
  ·intro y0 y1 y2 y3 y4 y5 y6 y7 y8
   unfold r12_Right.j2
   repeat' first
   | (with_reducible exact ih0 _ _ _ _ _)
   | (with_reducible exact ih1 _ _ _ _ _)
   | (with_reducible exact ih2 _ _ _ _ _ _ _ _ _)
   | (with_reducible exact ih3 _ _ _ _ _ _ _ _ _)
   | (with_reducible exact ih4 _ _ _ _ _ _ _ _ _)
   | (with_reducible exact r12_Home.mono _ _ _ _ _)
   | (with_reducible exact r12_Many.mono _ _ _ _)
   | (with_reducible exact r12_power.mono _ _)
   | (with_reducible exact LeO.refl _)
   | (with_reducible exact LeO.none _)
   | (with_reducible refine LeO.ite ?_ ?_)
   | (with_reducible refine LeO.bind ?_ (fun _ => ?_))
  ·intro y0 y1 y2 y3 y4 y5 y6 y7 y8
   unfold r12_Right.l1
   repeat' first
   | (with_reducible exact ih0 _ _ _ _ _)
   | (with_reducible exact ih1 _ _ _ _ _)
   | (with_reducible exact ih2 _ _ _ _ _ _ _ _ _)
   | (with_reducible exact ih3 _ _ _ _ _ _ _ _ _)
   | (with_reducible exact ih4 _ _ _ _ _ _ _ _ _)
   | (with_reducible exact r12_Home.mono _ _ _ _ _)
   | (with_reducible exact r12_Many.mono _ _ _ _)
   | (with_reducible exact r12_power.mono _ _)
   | (with_reducible exact LeO.refl _)
   | (with_reducible exact LeO.none _)
   | (with_reducible refine LeO.ite ?_ ?_)
   | (with_reducible refine LeO.bind ?_ (fun _ => ?_))
  ·intro y0 y1 y2 y3 y4 y5 y6 y7 y8
   unfold r12_Right.l2
   repeat' first
   | (with_reducible exact ih0 _ _ _ _ _)
   | (with_reducible exact ih1 _ _ _ _ _)
   | (with_reducible exact ih2 _ _ _ _ _ _ _ _ _)
   | (with_reducible exact ih3 _ _ _ _ _ _ _ _ _)
   | (with_reducible exact ih4 _ _ _ _ _ _ _ _ _)
   | (with_reducible exact r12_Home.mono _ _ _ _ _)
   | (with_reducible exact r12_Many.mono _ _ _ _)
   | (with_reducible exact r12_power.mono _ _)
   | (with_reducible exact LeO.refl _)
   | (with_reducible exact LeO.none _)
   | (with_reducible refine LeO.ite ?_ ?_)
   | (with_reducible refine LeO.bind ?_ (fun _ => ?_))
theorem r12_Right.mono : ∀ a0 a1 a2 k, LeO (r12_Right.f k a0 a1 a2) (r12_Right.f (k + 1) a0 a1 a2) := by
 intro a0 a1 a2 k
 obtain ⟨ih0, ih1, ih2, ih3, ih4⟩ := r12_Right.mono_l k
 unfold r12_Right.f
 repeat' first
   | (with_reducible exact ih0 _ _ _ _ _)
   | (with_reducible exact ih1 _ _ _ _ _)
   | (with_reducible exact ih2 _ _ _ _ _ _ _ _ _)
   | (with_reducible exact ih3 _ _ _ _ _ _ _ _ _)
   | (with_reducible exact ih4 _ _ _ _ _ _ _ _ _)
   | (with_reducible exact r12_Home.mono _ _ _ _ _)
   | (with_reducible exact r12_Many.mono _ _ _ _)
   | (with_reducible exact r12_power.mono _ _)
   | (with_reducible exact LeO.refl _)
   | (with_reducible exact LeO.none _)
   | (with_reducible refine LeO.ite ?_ ?_)
   | (with_reducible refine LeO.bind ?_ (fun _ => ?_))
set_option maxHeartbeats 8000000 in
set_option maxRecDepth 100000 in
theorem r12_Right.calls (k : Nat) (a0_0 : Int) (a0_1 : Int) (A0_2 : Option Addr) (c0_2 : Nat) (l0_2 : List (S46)) (r : Bool) (w : World) (hr0_2 : Kd.C k46 w A0_2 l0_2.length l0_2) (hc0_2 : l0_2.length ≤ c0_2) (h : r12_Right.f k a0_0 a0_1 l0_2 = some r) :
  Calls Try.prog 11 #[.agg #[.int .u64 a0_0, .int .u64 a0_1, .slice A0_2 l0_2.length c0_2]] w fun e w' => e = .returned (.bool r) ∧ Below w.heap.size w w' := by
 have hu30 := Try.underlying30
 have hu46 := Try.underlying46
 have HR0_2 := am hr0_2
 have HC0_2 := am hc0_2
 clear hr0_2 hc0_2
 have HB := am (Below.refl w.heap.size w)
 have H : ((r12_power.f k (l0_2.length : Int)).bind fun t308 => (if t308 = true then ((r12_Many.f k a0_0 a0_1 l0_2).bind fun t309 => (r12_Right.j0 k (l0_2.length : Int) (decide (t309 > (wrap64 ((l0_2.length : Int) / 2)))) a0_0 a0_1 l0_2)) else (r12_Right.j0 k (l0_2.length : Int) true a0_0 a0_1 l0_2))) = some r := h
 clear h
 have HC2 := am H
 clear H
 go_enter Try.func11, Try.ntmps11
 go_upto_region 2 with (first | ((with_reducible refine gate_dst (N := 1) rfl ?_); refine be 1 #[.int .u64 a0_0, .int .u64 a0_1, .slice A0_2 l0_2.length c0_2] 30 ?_; intro gb307 hg w3 hbox hb; have n0_ := am (below_step (pb HB) hb); have n1_ := am (hbox); have n2_ := am ((pg hg HB : w.heap.size ≤ gb307)); have n3_ := am ((pg hg HB : w.heap.size ≤ gb307)); clear HB; have HB := n0_; have BK307 := n1_; have GW307 := n2_; have GE307 := n3_; clear n0_ n1_ n2_ n3_; clear hb hbox hg; have hcz4_0 := ce BK307 0; have hcz4_1 := ce BK307 1; have hcz4_2 := ce BK307 2; have hfz4_0 := fz BK307 0; have hfz4_1 := fz BK307 1; have hfz4_2 := fz BK307 2))
 repeat (go_quiet (first | ((with_reducible refine gate_dst (N := 1) rfl ?_); refine be 1 #[.int .u64 a0_0, .int .u64 a0_1, .slice A0_2 l0_2.length c0_2] 30 ?_; intro gb307 hg w3 hbox hb; have n0_ := am (below_step (pb HB) hb); have n1_ := am (hbox); have n2_ := am ((pg hg HB : w.heap.size ≤ gb307)); have n3_ := am ((pg hg HB : w.heap.size ≤ gb307)); clear HB; have HB := n0_; have BK307 := n1_; have GW307 := n2_; have GE307 := n3_; clear n0_ n1_ n2_ n3_; clear hb hbox hg; have hcz4_0 := ce BK307 0; have hcz4_1 := ce BK307 1; have hcz4_2 := ce BK307 2; have hfz4_0 := fz BK307 0; have hfz4_1 := fz BK307 1; have hfz4_2 := fz BK307 2)); go_upto_region 2 with (first | ((with_reducible refine gate_dst (N := 1) rfl ?_); refine be 1 #[.int .u64 a0_0, .int .u64 a0_1, .slice A0_2 l0_2.length c0_2] 30 ?_; intro gb307 hg w3 hbox hb; have n0_ := am (below_step (pb HB) hb); have n1_ := am (hbox); have n2_ := am ((pg hg HB : w.heap.size ≤ gb307)); have n3_ := am ((pg hg HB : w.heap.size ≤ gb307)); clear HB; have HB := n0_; have BK307 := n1_; have GW307 := n2_; have GE307 := n3_; clear n0_ n1_ n2_ n3_; clear hb hbox hg; have hcz4_0 := ce BK307 0; have hcz4_1 := ce BK307 1; have hcz4_2 := ce BK307 2; have hfz4_0 := fz BK307 0; have hfz4_1 := fz BK307 1; have hfz4_2 := fz BK307 2)))
 (try simp only [Act.put, List.setIfInBounds_toArray, List.set_cons_zero, List.set_cons_succ])
 go_cut [20] (fun v20 wc => ∃ (kq : Nat) (x20_1 : Bool), v20 = .bool x20_1 ∧ Aside0 (r12_Right.j0 kq (l0_2.length : Int) x20_1 a0_0 a0_1 l0_2 = some r) ∧ Aside0 (kq ≤ k) ∧ Aside0 (wc.heap[gb307]? = some (.cells #[.int .u64 a0_0, .int .u64 a0_1, (.slice A0_2 l0_2.length c0_2)] 30 (0, 0))) ∧ Aside0 (Below w.heap.size w wc))
 case first =>
  have H := HC2.out
  clear HC2
  replace H := Option.bind_eq_some_iff.mp H
  obtain ⟨t308, A50, H⟩ := H
  replace H : (if t308 = true then ((r12_Many.f k a0_0 a0_1 l0_2).bind fun t309 => (r12_Right.j0 k (l0_2.length : Int) (decide (t309 > (wrap64 ((l0_2.length : Int) / 2)))) a0_0 a0_1 l0_2)) else (r12_Right.j0 k (l0_2.length : Int) true a0_0 a0_1 l0_2)) = some r := H
  have A5 := am A50
  clear A50
  by_cases c6 : t308 = true
  ·subst c6
   have H1 : ((r12_Many.f k a0_0 a0_1 l0_2).bind fun t309 => (r12_Right.j0 k (l0_2.length : Int) (decide (t309 > (wrap64 ((l0_2.length : Int) / 2)))) a0_0 a0_1 l0_2)) = some r := by rw [if_pos rfl] at H; exact H
   clear H
   have H := H1
   clear H1
   replace H := Option.bind_eq_some_iff.mp H
   obtain ⟨t309, A70, H⟩ := H
   replace H : (r12_Right.j0 k (l0_2.length : Int) (decide (t309 > (wrap64 ((l0_2.length : Int) / 2)))) a0_0 a0_1 l0_2) = some r := H
   have A7 := am A70
   clear A70
   have H' := am H
   clear H
   go_wp2_with (first | (go_at_call 23; (with_reducible refine (r12_power.calls k (l0_2.length : Int) true _ A5.out).mono ?_); rintro e w' ⟨rfl, ⟨nd, rfl⟩⟩; (try first | exact ⟨rfl, _, World.drewN_drewN _ _ _⟩ | exact ⟨rfl, _, Eq.trans (World.drewN_drewN _ _ _) (congrArg (World.drewN _) (Nat.add_assoc _ _ _))⟩); have hcz8_0 := ce BK307 0; have hcz8_1 := ce BK307 1; have hcz8_2 := ce BK307 2; have hfz8_0 := fz BK307 0; have hfz8_1 := fz BK307 1; have hfz8_2 := fz BK307 2) | (go_at_call 19; (with_reducible refine (r12_Many.calls k a0_0 a0_1 _ _ l0_2 t309 _ ?side1 ?side2 A7.out).mono ?_); (case side1 => repeat (first | exact (Kd.C_below HR0_2.out (pb HB)) | (with_reducible refine Kd.C_alloc ?_ _) | (with_reducible refine Kd.C_drewN ?_ _) | (with_reducible refine Kd.C_drew ?_))); (case side2 => exact HC0_2.out); rintro e w9 ⟨rfl, hb⟩; replace BK307 := am (blk_below (pk BK307.out) hb); replace HB := am (below_step (pb HB) hb); (try clear hb); (try clear hb2); (try clear hk); (try clear hi)))
   repeat (go_quiet (first | (go_at_call 23; (with_reducible refine (r12_power.calls k (l0_2.length : Int) true _ A5.out).mono ?_); rintro e w' ⟨rfl, ⟨nd, rfl⟩⟩; (try first | exact ⟨rfl, _, World.drewN_drewN _ _ _⟩ | exact ⟨rfl, _, Eq.trans (World.drewN_drewN _ _ _) (congrArg (World.drewN _) (Nat.add_assoc _ _ _))⟩); have hcz8_0 := ce BK307 0; have hcz8_1 := ce BK307 1; have hcz8_2 := ce BK307 2; have hfz8_0 := fz BK307 0; have hfz8_1 := fz BK307 1; have hfz8_2 := fz BK307 2) | (go_at_call 19; (with_reducible refine (r12_Many.calls k a0_0 a0_1 _ _ l0_2 t309 _ ?side1 ?side2 A7.out).mono ?_); (case side1 => repeat (first | exact (Kd.C_below HR0_2.out (pb HB)) | (with_reducible refine Kd.C_alloc ?_ _) | (with_reducible refine Kd.C_drewN ?_ _) | (with_reducible refine Kd.C_drew ?_))); (case side2 => exact HC0_2.out); rintro e w9 ⟨rfl, hb⟩; replace BK307 := am (blk_below (pk BK307.out) hb); replace HB := am (below_step (pb HB) hb); (try clear hb); (try clear hb2); (try clear hk); (try clear hi))); try go_wp2_with (first | (go_at_call 23; (with_reducible refine (r12_power.calls k (l0_2.length : Int) true _ A5.out).mono ?_); rintro e w' ⟨rfl, ⟨nd, rfl⟩⟩; (try first | exact ⟨rfl, _, World.drewN_drewN _ _ _⟩ | exact ⟨rfl, _, Eq.trans (World.drewN_drewN _ _ _) (congrArg (World.drewN _) (Nat.add_assoc _ _ _))⟩); have hcz8_0 := ce BK307 0; have hcz8_1 := ce BK307 1; have hcz8_2 := ce BK307 2; have hfz8_0 := fz BK307 0; have hfz8_1 := fz BK307 1; have hfz8_2 := fz BK307 2) | (go_at_call 19; (with_reducible refine (r12_Many.calls k a0_0 a0_1 _ _ l0_2 t309 _ ?side1 ?side2 A7.out).mono ?_); (case side1 => repeat (first | exact (Kd.C_below HR0_2.out (pb HB)) | (with_reducible refine Kd.C_alloc ?_ _) | (with_reducible refine Kd.C_drewN ?_ _) | (with_reducible refine Kd.C_drew ?_))); (case side2 => exact HC0_2.out); rintro e w9 ⟨rfl, hb⟩; replace BK307 := am (blk_below (pk BK307.out) hb); replace HB := am (below_step (pb HB) hb); (try clear hb); (try clear hb2); (try clear hk); (try clear hi))))
   go_meet
   case rel => exact ⟨_, (decide (t309 > (wrap64 ((l0_2.length : Int) / 2)))), (by first | rfl | (simp; done) | (simp [*]; done)), H', ⟨by first | omega | exact Nat.le_refl _⟩, ⟨pk BK307.out⟩, ⟨pb HB⟩⟩
  ·replace c6 := Bool.eq_false_iff.mpr c6
   subst c6
   have H1 : (r12_Right.j0 k (l0_2.length : Int) true a0_0 a0_1 l0_2) = some r := by rw [if_neg (show ¬ (false = true) by decide)] at H; exact H
   clear H
   have H := H1
   clear H1
   have H' := am H
   clear H
   go_wp2_with (first | (go_at_call 23; (with_reducible refine (r12_power.calls k (l0_2.length : Int) false _ A5.out).mono ?_); rintro e w' ⟨rfl, ⟨nd, rfl⟩⟩; (try first | exact ⟨rfl, _, World.drewN_drewN _ _ _⟩ | exact ⟨rfl, _, Eq.trans (World.drewN_drewN _ _ _) (congrArg (World.drewN _) (Nat.add_assoc _ _ _))⟩)))
   repeat (go_quiet (first | (go_at_call 23; (with_reducible refine (r12_power.calls k (l0_2.length : Int) false _ A5.out).mono ?_); rintro e w' ⟨rfl, ⟨nd, rfl⟩⟩; (try first | exact ⟨rfl, _, World.drewN_drewN _ _ _⟩ | exact ⟨rfl, _, Eq.trans (World.drewN_drewN _ _ _) (congrArg (World.drewN _) (Nat.add_assoc _ _ _))⟩))); try go_wp2_with (first | (go_at_call 23; (with_reducible refine (r12_power.calls k (l0_2.length : Int) false _ A5.out).mono ?_); rintro e w' ⟨rfl, ⟨nd, rfl⟩⟩; (try first | exact ⟨rfl, _, World.drewN_drewN _ _ _⟩ | exact ⟨rfl, _, Eq.trans (World.drewN_drewN _ _ _) (congrArg (World.drewN _) (Nat.add_assoc _ _ _))⟩))))
   go_meet
   case rel => exact ⟨_, (true), (by first | rfl | (simp; done) | (simp [*]; done)), H', ⟨by first | omega | exact Nat.le_refl _⟩, ⟨pk BK307.out⟩, ⟨pb HB⟩⟩
 case rest =>
  clear HC2
  try clear c1
  try clear p2
  try clear c6
  try clear p6
  try clear hcz4_0 hcz4_1 hcz4_2
  try clear hcz8_0 hcz8_1 hcz8_2
  try clear hfz4_0 hfz4_1 hfz4_2
  try clear hfz8_0 hfz8_1 hfz8_2
  obtain ⟨kq, x20_1, rfl, HA, HJ1, BK307, HB⟩ := hcut
  cases kq with
  | zero => exact absurd HA.out (by simp [r12_Right.j0])
  | succ kj1 =>
   have H := HA.out
   clear HA
   simp only [r12_Right.j0] at H
   by_cases c10 : x20_1 = true
   ·subst c10
    have H1 : (some false) = some r := by rw [if_pos rfl] at H; exact H
    clear H
    have H := H1
    clear H1
    obtain rfl := Option.some.inj H
    go_wp2
    repeat (go_quiet (fail); try go_wp2)
    go_ret
    exact ⟨by first | rfl | (simp [errW_none, errW_some] <;> rfl) | (simp [*, errW_none, errW_some] <;> rfl), pb HB⟩
   ·replace c10 := Bool.eq_false_iff.mpr c10
    subst c10
    have H1 : (r12_Right.l0 kj1 (l0_2.length : Int) 0 a0_0 a0_1 l0_2) = some r := by rw [if_neg (show ¬ (false = true) by decide)] at H; exact H
    clear H
    have H := H1
    clear H1
    have H' := am H
    clear H
    go_wp2
    repeat (go_quiet (fail); try go_wp2)
    go_loopg [4] kj1 (fun kq v4 w' => ∃ (x4_2 : Int), v4 = .int .i64 x4_2 ∧ Aside0 (r12_Right.l0 kq (l0_2.length : Int) x4_2 a0_0 a0_1 l0_2 = some r) ∧ Aside0 (kq ≤ kj1) ∧ Aside0 (w'.heap[gb307]? = some (.cells #[.int .u64 a0_0, .int .u64 a0_1, (.slice A0_2 l0_2.length c0_2)] 30 (0, 0))) ∧ Aside0 (Below w.heap.size w w'))
    case atStart => exact ⟨(0), (by first | rfl | (simp; done) | (simp [*]; done)), H', ⟨Nat.le_refl _⟩, ⟨pk BK307.out⟩, ⟨pb HB⟩⟩
    case round =>
     clear H'
     try clear c1
     try clear p2
     try clear c6
     try clear p6
     try clear c10
     try clear hcz4_0 hcz4_1 hcz4_2
     try clear hcz8_0 hcz8_1 hcz8_2
     try clear hfz4_0 hfz4_1 hfz4_2
     try clear hfz8_0 hfz8_1 hfz8_2
     try clear p2
     try clear p6
     obtain ⟨x4_2, rfl, HA, HK2, BK307, HB⟩ := hrel
     cases gk with
     | zero => exact absurd HA.out (by simp [r12_Right.l0])
     | succ k2 =>
      have H := HA.out
      clear HA
      simp only [r12_Right.l0] at H
      by_cases c11 : x4_2 < (l0_2.length : Int)
      ·rw [if_pos c11] at H
       have c11b0 : decide (x4_2 < (l0_2.length : Int)) = true := decide_eq_true c11
       clear c11
       by_cases c12 : 0 ≤ x4_2
       ·rw [if_pos c12] at H
        have c12b0 : decide (0 ≤ x4_2) = true := decide_eq_true c12
        clear c12
        by_cases c13 : x4_2 < (l0_2.length : Int)
        ·rw [if_pos c13] at H
         have c13b0 : decide (x4_2 < (l0_2.length : Int)) = true := decide_eq_true c13
         clear c13
         obtain ⟨bq14, hbq14⟩ : ∃ b_ : Bool, b_ = ((rd_T46 l0_2 x4_2).f0) := ⟨_, rfl⟩
         replace H : (if (bq14 = true) then (if (((rd_T46 l0_2 x4_2).f1).size : Int) > 64 then (r12_Right.j2 k2 (l0_2.length : Int) x4_2 true a0_0 a0_1 l0_2 bq14 ((rd_T46 l0_2 x4_2).f1) ((rd_T46 l0_2 x4_2).f2)) else (if ((rd_T46 l0_2 x4_2).f2) < 0 then (r12_Right.j2 k2 (l0_2.length : Int) x4_2 true a0_0 a0_1 l0_2 bq14 ((rd_T46 l0_2 x4_2).f1) ((rd_T46 l0_2 x4_2).f2)) else (r12_Right.j2 k2 (l0_2.length : Int) x4_2 (decide (((rd_T46 l0_2 x4_2).f2) > 2147483647)) a0_0 a0_1 l0_2 bq14 ((rd_T46 l0_2 x4_2).f1) ((rd_T46 l0_2 x4_2).f2)))) else (if ((rd_T46 l0_2 x4_2).f1).toList = ([] : List UInt8) then (if ((rd_T46 l0_2 x4_2).f2) = 0 then (r12_Right.l0 k2 (l0_2.length : Int) (wrap64 (x4_2 + 1)) a0_0 a0_1 l0_2) else (some false)) else (some false))) = some r := by rw [← hbq14] at H; exact H
         have Nbq14 := am hbq14
         clear hbq14
         by_cases c15 : (bq14 = true)
         ·subst c15
          have H1 : (if (((rd_T46 l0_2 x4_2).f1).size : Int) > 64 then (r12_Right.j2 k2 (l0_2.length : Int) x4_2 true a0_0 a0_1 l0_2 true ((rd_T46 l0_2 x4_2).f1) ((rd_T46 l0_2 x4_2).f2)) else (if ((rd_T46 l0_2 x4_2).f2) < 0 then (r12_Right.j2 k2 (l0_2.length : Int) x4_2 true a0_0 a0_1 l0_2 true ((rd_T46 l0_2 x4_2).f1) ((rd_T46 l0_2 x4_2).f2)) else (r12_Right.j2 k2 (l0_2.length : Int) x4_2 (decide (((rd_T46 l0_2 x4_2).f2) > 2147483647)) a0_0 a0_1 l0_2 true ((rd_T46 l0_2 x4_2).f1) ((rd_T46 l0_2 x4_2).f2)))) = some r := by rw [if_pos rfl] at H; exact H
          clear H
          have H := H1
          clear H1
          have HC16 := am H
          clear H
          have hcz17_0 := ce BK307 0
          have hcz17_1 := ce BK307 1
          have hcz17_2 := ce BK307 2
          have hfz17_0 := fz BK307 0
          have hfz17_1 := fz BK307 1
          have hfz17_2 := fz BK307 2
          have p310 : 0 ≤ (x4_2 : Int) := of_decide_eq_true (by first | (with_reducible assumption) | assumption)
          have q310 : x4_2 < (l0_2.length : Int) := of_decide_eq_true (by first | (with_reducible assumption) | assumption)
          obtain ⟨ad310, e310, hx310_0, hx310_1, hx310_2⟩ := at_T46 HR0_2.out x4_2 p310 q310
          (try rw [← Nbq14.out] at hx310_0)
          cases e310
          replace hx310_0 := (HB.out.cell (World.block_lt_of_cell? w _ hx310_0)).trans hx310_0
          replace hx310_1 := (HB.out.cell (World.block_lt_of_cell? w _ hx310_1)).trans hx310_1
          replace hx310_2 := (HB.out.cell (World.block_lt_of_cell? w _ hx310_2)).trans hx310_2
          replace p310 := eq_true p310
          replace q310 := eq_true q310
          go_upto_region 11 with (first | ((with_reducible refine gate_dst (N := 5) rfl ?_); refine be 5 #[.bool false, .string (⟨#[]⟩ : ByteArray), .int .i64 0] 46 ?_; intro gb311 hg w18 hbox hb; have n0_ := am (blk_below (pk BK307.out) hb); have n1_ := am (below_step (pb HB) hb); have n2_ := am (hbox); have n3_ := am ((pg hg HB : w.heap.size ≤ gb311)); have n4_ := am ((pg hg HB : w.heap.size ≤ gb311)); have n5_ := am ((pl hg (pk BK307.out) : gb307 ≠ gb311)); have n6_ := am ((pl' hg (pk BK307.out) : gb311 ≠ gb307)); clear BK307; clear HB; have BK307 := n0_; have HB := n1_; have BK311 := n2_; have GW311 := n3_; have GE311 := n4_; have NB307_311 := n5_; have NB311_307 := n6_; clear n0_ n1_ n2_ n3_ n4_ n5_ n6_; clear hb hbox hg; have hnb19 := NB311_307.out; have hnc19 := NB307_311.out; have hcz20_0 := ce BK311 0; have hcz20_1 := ce BK311 1; have hcz20_2 := ce BK311 2; have hfz20_0 := fz BK311 0; have hfz20_1 := fz BK311 1; have hfz20_2 := fz BK311 2))
          repeat (go_quiet (first | ((with_reducible refine gate_dst (N := 5) rfl ?_); refine be 5 #[.bool false, .string (⟨#[]⟩ : ByteArray), .int .i64 0] 46 ?_; intro gb311 hg w18 hbox hb; have n0_ := am (blk_below (pk BK307.out) hb); have n1_ := am (below_step (pb HB) hb); have n2_ := am (hbox); have n3_ := am ((pg hg HB : w.heap.size ≤ gb311)); have n4_ := am ((pg hg HB : w.heap.size ≤ gb311)); have n5_ := am ((pl hg (pk BK307.out) : gb307 ≠ gb311)); have n6_ := am ((pl' hg (pk BK307.out) : gb311 ≠ gb307)); clear BK307; clear HB; have BK307 := n0_; have HB := n1_; have BK311 := n2_; have GW311 := n3_; have GE311 := n4_; have NB307_311 := n5_; have NB311_307 := n6_; clear n0_ n1_ n2_ n3_ n4_ n5_ n6_; clear hb hbox hg; have hnb19 := NB311_307.out; have hnc19 := NB307_311.out; have hcz20_0 := ce BK311 0; have hcz20_1 := ce BK311 1; have hcz20_2 := ce BK311 2; have hfz20_0 := fz BK311 0; have hfz20_1 := fz BK311 1; have hfz20_2 := fz BK311 2)); go_upto_region 11 with (first | ((with_reducible refine gate_dst (N := 5) rfl ?_); refine be 5 #[.bool false, .string (⟨#[]⟩ : ByteArray), .int .i64 0] 46 ?_; intro gb311 hg w18 hbox hb; have n0_ := am (blk_below (pk BK307.out) hb); have n1_ := am (below_step (pb HB) hb); have n2_ := am (hbox); have n3_ := am ((pg hg HB : w.heap.size ≤ gb311)); have n4_ := am ((pg hg HB : w.heap.size ≤ gb311)); have n5_ := am ((pl hg (pk BK307.out) : gb307 ≠ gb311)); have n6_ := am ((pl' hg (pk BK307.out) : gb311 ≠ gb307)); clear BK307; clear HB; have BK307 := n0_; have HB := n1_; have BK311 := n2_; have GW311 := n3_; have GE311 := n4_; have NB307_311 := n5_; have NB311_307 := n6_; clear n0_ n1_ n2_ n3_ n4_ n5_ n6_; clear hb hbox hg; have hnb19 := NB311_307.out; have hnc19 := NB307_311.out; have hcz20_0 := ce BK311 0; have hcz20_1 := ce BK311 1; have hcz20_2 := ce BK311 2; have hfz20_0 := fz BK311 0; have hfz20_1 := fz BK311 1; have hfz20_2 := fz BK311 2)))
          (try simp only [Act.put, List.setIfInBounds_toArray, List.set_cons_zero, List.set_cons_succ])
          go_cut [55] (fun v55 wc => ∃ (kq : Nat) (x55_15 : Bool), v55 = .bool x55_15 ∧ Aside0 (r12_Right.j2 kq (l0_2.length : Int) x4_2 x55_15 a0_0 a0_1 l0_2 true ((rd_T46 l0_2 x4_2).f1) ((rd_T46 l0_2 x4_2).f2) = some r) ∧ Aside0 (kq ≤ k2) ∧ Aside0 (wc.heap[gb307]? = some (.cells #[.int .u64 a0_0, .int .u64 a0_1, (.slice (some ad310) l0_2.length c0_2)] 30 (0, 0))) ∧ Aside0 (wc.heap[gb311]? = some (.cells #[.bool true, .string ((rd_T46 l0_2 x4_2).f1), .int .i64 ((rd_T46 l0_2 x4_2).f2)] 46 (0, 0))) ∧ Aside0 (Below w.heap.size w wc))
          case first =>
           have H := HC16.out
           clear HC16
           by_cases c21 : (((rd_T46 l0_2 x4_2).f1).size : Int) > 64
           ·rw [if_pos c21] at H
            have c21b0 : decide (64 < (((rd_T46 l0_2 x4_2).f1).size : Int)) = true := decide_eq_true c21
            have c21b1 : decide (64 < ((rd_T46 l0_2 x4_2).f1).size) = true := decide_eq_true (by omega)
            clear c21
            (first | rw [c21b0] | (simp only [i64_w, i32_w]; rw [c21b0]) | skip)
            have H' := am H
            clear H
            have hnb22 := NB311_307.out
            have hnc22 := NB307_311.out
            have hcz23_0 := ce BK311 0
            have hcz23_1 := ce BK311 1
            have hcz23_2 := ce BK311 2
            have hfz23_0 := fz BK311 0
            have hfz23_1 := fz BK311 1
            have hfz23_2 := fz BK311 2
            go_wp2
            repeat (go_quiet (fail); try go_wp2)
            go_meet
            case rel => exact ⟨_, (true), (by first | rfl | (simp; done) | (simp [*]; done)), H', ⟨by have := HJ1.out; have := HK2.out; first | omega | exact Nat.le_refl _⟩, ⟨by refine pk ?_; refine blk_far ?_ NB307_311.out _; refine pk ?_; refine blk_far ?_ NB307_311.out _; refine pk ?_; refine blk_far ?_ NB307_311.out _; refine pk ?_; exact BK307.out⟩, ⟨by refine pk ?_; refine blk_put (cs := #[.bool true, .string ((rd_T46 l0_2 x4_2).f1), .int .i64 0]) ?_ 2 _ rfl; refine pk ?_; refine blk_put (cs := #[.bool true, .string (⟨#[]⟩ : ByteArray), .int .i64 0]) ?_ 1 _ rfl; refine pk ?_; refine blk_put (cs := #[.bool false, .string (⟨#[]⟩ : ByteArray), .int .i64 0]) ?_ 0 _ rfl; refine pk ?_; exact BK311.out⟩, ⟨pb HB⟩⟩
           ·rw [if_neg c21] at H
            have c21b0 : decide (64 < (((rd_T46 l0_2 x4_2).f1).size : Int)) = false := decide_eq_false c21
            have c21b1 : decide (64 < ((rd_T46 l0_2 x4_2).f1).size) = false := decide_eq_false (by omega)
            clear c21
            (first | rw [c21b0] | (simp only [i64_w, i32_w]; rw [c21b0]) | skip)
            by_cases c24 : ((rd_T46 l0_2 x4_2).f2) < 0
            ·rw [if_pos c24] at H
             have c24b0 : decide (((rd_T46 l0_2 x4_2).f2) < 0) = true := decide_eq_true c24
             clear c24
             have H' := am H
             clear H
             have hnb25 := NB311_307.out
             have hnc25 := NB307_311.out
             have hcz26_0 := ce BK311 0
             have hcz26_1 := ce BK311 1
             have hcz26_2 := ce BK311 2
             have hfz26_0 := fz BK311 0
             have hfz26_1 := fz BK311 1
             have hfz26_2 := fz BK311 2
             go_wp2
             repeat (go_quiet (fail); try go_wp2)
             go_meet
             case rel => exact ⟨_, (true), (by first | rfl | (simp; done) | (simp [*]; done)), H', ⟨by have := HJ1.out; have := HK2.out; first | omega | exact Nat.le_refl _⟩, ⟨by refine pk ?_; refine blk_far ?_ NB307_311.out _; refine pk ?_; refine blk_far ?_ NB307_311.out _; refine pk ?_; refine blk_far ?_ NB307_311.out _; refine pk ?_; exact BK307.out⟩, ⟨by refine pk ?_; refine blk_put (cs := #[.bool true, .string ((rd_T46 l0_2 x4_2).f1), .int .i64 0]) ?_ 2 _ rfl; refine pk ?_; refine blk_put (cs := #[.bool true, .string (⟨#[]⟩ : ByteArray), .int .i64 0]) ?_ 1 _ rfl; refine pk ?_; refine blk_put (cs := #[.bool false, .string (⟨#[]⟩ : ByteArray), .int .i64 0]) ?_ 0 _ rfl; refine pk ?_; exact BK311.out⟩, ⟨pb HB⟩⟩
            ·rw [if_neg c24] at H
             have c24b0 : decide (((rd_T46 l0_2 x4_2).f2) < 0) = false := decide_eq_false c24
             clear c24
             have H' := am H
             clear H
             have hnb27 := NB311_307.out
             have hnc27 := NB307_311.out
             have hcz28_0 := ce BK311 0
             have hcz28_1 := ce BK311 1
             have hcz28_2 := ce BK311 2
             have hfz28_0 := fz BK311 0
             have hfz28_1 := fz BK311 1
             have hfz28_2 := fz BK311 2
             go_wp2
             repeat (go_quiet (fail); try go_wp2)
             go_meet
             case rel => exact ⟨_, (decide (((rd_T46 l0_2 x4_2).f2) > 2147483647)), (by first | rfl | (simp; done) | (simp [*]; done)), H', ⟨by have := HJ1.out; have := HK2.out; first | omega | exact Nat.le_refl _⟩, ⟨by refine pk ?_; refine blk_far ?_ NB307_311.out _; refine pk ?_; refine blk_far ?_ NB307_311.out _; refine pk ?_; refine blk_far ?_ NB307_311.out _; refine pk ?_; exact BK307.out⟩, ⟨by refine pk ?_; refine blk_put (cs := #[.bool true, .string ((rd_T46 l0_2 x4_2).f1), .int .i64 0]) ?_ 2 _ rfl; refine pk ?_; refine blk_put (cs := #[.bool true, .string (⟨#[]⟩ : ByteArray), .int .i64 0]) ?_ 1 _ rfl; refine pk ?_; refine blk_put (cs := #[.bool false, .string (⟨#[]⟩ : ByteArray), .int .i64 0]) ?_ 0 _ rfl; refine pk ?_; exact BK311.out⟩, ⟨pb HB⟩⟩
          case rest =>
           clear HC16
           try clear c1
           try clear q1
           try clear c2
           try clear p2
           try clear p3
           try clear q3
           try clear hx3
           try clear c6
           try clear p6
           try clear c10
           try clear c11
           try clear c11b0
           try clear c12
           try clear c12b0
           try clear c13
           try clear c13b0
           try clear q14
           try clear c15
           try clear c19
           try clear c21
           try clear c21b0
           try clear c21b1
           try clear c22
           try clear c24
           try clear c24b0
           try clear c25
           try clear c27
           try clear hcz17_0 hcz17_1 hcz17_2
           try clear hcz20_0 hcz20_1 hcz20_2
           try clear hcz23_0 hcz23_1 hcz23_2
           try clear hcz26_0 hcz26_1 hcz26_2
           try clear hcz28_0 hcz28_1 hcz28_2
           try clear hcz4_0 hcz4_1 hcz4_2
           try clear hcz8_0 hcz8_1 hcz8_2
           try clear hfz17_0 hfz17_1 hfz17_2
           try clear hfz20_0 hfz20_1 hfz20_2
           try clear hfz23_0 hfz23_1 hfz23_2
           try clear hfz26_0 hfz26_1 hfz26_2
           try clear hfz28_0 hfz28_1 hfz28_2
           try clear hfz4_0 hfz4_1 hfz4_2
           try clear hfz8_0 hfz8_1 hfz8_2
           try clear hx310_0
           try clear hx310_1
           try clear hx310_2
           try clear p2
           try clear p310
           try clear p6
           try clear q310
           obtain ⟨kq, x55_15, rfl, HA, HJ15, BK307, BK311, HB⟩ := hcut
           cases kq with
           | zero => exact absurd HA.out (by simp [r12_Right.j2])
           | succ kj15 =>
            have H := HA.out
            clear HA
            simp only [r12_Right.j2] at H
            by_cases c29 : x55_15 = true
            ·subst c29
             have H1 : (some false) = some r := by rw [if_pos rfl] at H; exact H
             clear H
             have H := H1
             clear H1
             obtain rfl := Option.some.inj H
             go_wp2
             repeat (go_quiet (fail); try go_wp2)
             go_ret
             exact ⟨by first | rfl | (simp [errW_none, errW_some] <;> rfl) | (simp [*, errW_none, errW_some] <;> rfl), pb HB⟩
            ·replace c29 := Bool.eq_false_iff.mpr c29
             subst c29
             have H1 : ((r12_Home.f kj15 a0_0 a0_1 l0_2 ((rd_T46 l0_2 x4_2).f1)).bind fun t312 => (r12_Right.l1 kj15 (l0_2.length : Int) x4_2 t312 a0_0 a0_1 l0_2 true ((rd_T46 l0_2 x4_2).f1) ((rd_T46 l0_2 x4_2).f2))) = some r := by rw [if_neg (show ¬ (false = true) by decide)] at H; exact H
             clear H
             have H := H1
             clear H1
             replace H := Option.bind_eq_some_iff.mp H
             obtain ⟨t312, A300, H⟩ := H
             replace H : (r12_Right.l1 kj15 (l0_2.length : Int) x4_2 t312 a0_0 a0_1 l0_2 true ((rd_T46 l0_2 x4_2).f1) ((rd_T46 l0_2 x4_2).f2)) = some r := H
             have A30 := am A300
             clear A300
             have H' := am H
             clear H
             have hnb31 := NB307_311.out
             have hnc31 := NB311_307.out
             have hcz32_0 := ce BK307 0
             have hcz32_1 := ce BK307 1
             have hcz32_2 := ce BK307 2
             have hfz32_0 := fz BK307 0
             have hfz32_1 := fz BK307 1
             have hfz32_2 := fz BK307 2
             have hcz33_0 := ce BK311 0
             have hcz33_1 : wc.cell? ⟨gb311, 1, none⟩ = some (.string ((rd_T46 l0_2 x4_2).f1)) := ce BK311 1
             have hcz33_2 : wc.cell? ⟨gb311, 2, none⟩ = some (.int .i64 ((rd_T46 l0_2 x4_2).f2)) := ce BK311 2
             have hfz33_0 := fz BK311 0
             have hfz33_1 := fz BK311 1
             have hfz33_2 := fz BK311 2
             go_wp2_with (first | (go_at_call 24; (with_reducible refine (r12_Home.calls kj15 a0_0 a0_1 _ _ l0_2 ((rd_T46 l0_2 x4_2).f1) t312 _ ?side1 ?side2 A30.out).mono ?_); (case side1 => repeat (first | exact (Kd.C_below HR0_2.out HB.out) | (with_reducible refine Kd.C_alloc ?_ _) | (with_reducible refine Kd.C_drewN ?_ _) | (with_reducible refine Kd.C_drew ?_))); (case side2 => exact HC0_2.out); rintro e w34 ⟨rfl, hb⟩; replace BK307 := am (blk_below (pk BK307.out) hb); replace BK311 := am (blk_below (pk BK311.out) hb); replace HB := am (below_step (pb HB) hb); (try clear hb); (try clear hb2); (try clear hk); (try clear hi)))
             repeat (go_quiet (first | (go_at_call 24; (with_reducible refine (r12_Home.calls kj15 a0_0 a0_1 _ _ l0_2 ((rd_T46 l0_2 x4_2).f1) t312 _ ?side1 ?side2 A30.out).mono ?_); (case side1 => repeat (first | exact (Kd.C_below HR0_2.out HB.out) | (with_reducible refine Kd.C_alloc ?_ _) | (with_reducible refine Kd.C_drewN ?_ _) | (with_reducible refine Kd.C_drew ?_))); (case side2 => exact HC0_2.out); rintro e w34 ⟨rfl, hb⟩; replace BK307 := am (blk_below (pk BK307.out) hb); replace BK311 := am (blk_below (pk BK311.out) hb); replace HB := am (below_step (pb HB) hb); (try clear hb); (try clear hb2); (try clear hk); (try clear hi))); try go_wp2_with (first | (go_at_call 24; (with_reducible refine (r12_Home.calls kj15 a0_0 a0_1 _ _ l0_2 ((rd_T46 l0_2 x4_2).f1) t312 _ ?side1 ?side2 A30.out).mono ?_); (case side1 => repeat (first | exact (Kd.C_below HR0_2.out HB.out) | (with_reducible refine Kd.C_alloc ?_ _) | (with_reducible refine Kd.C_drewN ?_ _) | (with_reducible refine Kd.C_drew ?_))); (case side2 => exact HC0_2.out); rintro e w34 ⟨rfl, hb⟩; replace BK307 := am (blk_below (pk BK307.out) hb); replace BK311 := am (blk_below (pk BK311.out) hb); replace HB := am (below_step (pb HB) hb); (try clear hb); (try clear hb2); (try clear hk); (try clear hi))))
             go_loopg [6] kj15 (fun kq v6 w' => ∃ (x6_4 : Int), v6 = .int .i64 x6_4 ∧ Aside0 (r12_Right.l1 kq (l0_2.length : Int) x4_2 x6_4 a0_0 a0_1 l0_2 true ((rd_T46 l0_2 x4_2).f1) ((rd_T46 l0_2 x4_2).f2) = some r) ∧ Aside0 (kq ≤ kj15) ∧ Aside0 (w'.heap[gb307]? = some (.cells #[.int .u64 a0_0, .int .u64 a0_1, (.slice (some ad310) l0_2.length c0_2)] 30 (0, 0))) ∧ Aside0 (w'.heap[gb311]? = some (.cells #[.bool true, .string ((rd_T46 l0_2 x4_2).f1), .int .i64 ((rd_T46 l0_2 x4_2).f2)] 46 (0, 0))) ∧ Aside0 (Below w.heap.size w w'))
             case atStart => exact ⟨(t312), (by first | rfl | (simp; done) | (simp [*]; done)), H', ⟨Nat.le_refl _⟩, ⟨pk BK307.out⟩, ⟨pk BK311.out⟩, ⟨pb HB⟩⟩
             case round =>
              clear H'
              try clear c1
              try clear q1
              try clear c2
              try clear p2
              try clear c3
              try clear p3
              try clear q3
              try clear hx3
              try clear c6
              try clear p6
              try clear c10
              try clear c11
              try clear c11b0
              try clear c12
              try clear c12b0
              try clear c13
              try clear c13b0
              try clear q14
              try clear c15
              try clear c19
              try clear c21
              try clear c21b0
              try clear c21b1
              try clear c22
              try clear c24
              try clear c24b0
              try clear c25
              try clear c27
              try clear c29
              try clear c31
              try clear p31
              try clear q31
              try clear hx31
              try clear hcz17_0 hcz17_1 hcz17_2
              try clear hcz20_0 hcz20_1 hcz20_2
              try clear hcz23_0 hcz23_1 hcz23_2
              try clear hcz26_0 hcz26_1 hcz26_2
              try clear hcz28_0 hcz28_1 hcz28_2
              try clear hcz32_0 hcz32_1 hcz32_2
              try clear hcz33_0 hcz33_1 hcz33_2
              try clear hcz4_0 hcz4_1 hcz4_2
              try clear hcz8_0 hcz8_1 hcz8_2
              try clear hfz17_0 hfz17_1 hfz17_2
              try clear hfz20_0 hfz20_1 hfz20_2
              try clear hfz23_0 hfz23_1 hfz23_2
              try clear hfz26_0 hfz26_1 hfz26_2
              try clear hfz28_0 hfz28_1 hfz28_2
              try clear hfz32_0 hfz32_1 hfz32_2
              try clear hfz33_0 hfz33_1 hfz33_2
              try clear hfz4_0 hfz4_1 hfz4_2
              try clear hfz8_0 hfz8_1 hfz8_2
              try clear hx310_0
              try clear hx310_1
              try clear hx310_2
              try clear p2
              try clear p3
              try clear p310
              try clear p6
              try clear q1
              try clear q14
              try clear q3
              try clear q310
              obtain ⟨x6_4, rfl, HA, HK4, BK307, BK311, HB⟩ := hrel
              cases gk with
              | zero => exact absurd HA.out (by simp [r12_Right.l1])
              | succ k4 =>
               have H := HA.out
               clear HA
               simp only [r12_Right.l1] at H
               by_cases c35 : x6_4 = x4_2
               ·rw [if_pos c35] at H
                have c35b0 : (x6_4 == x4_2) = true := beq_iff_eq.mpr c35
                have c35b1 : (x6_4 != x4_2) = false := bne_eq_false_iff_eq.mpr c35
                clear c35
                have H' := am H
                clear H
                go_wp2
                repeat (go_quiet (fail); try go_wp2)
                go_loopg [7] k4 (fun kq v7 w' => ∃ (x7_5 : Int), v7 = .int .i64 x7_5 ∧ Aside0 (r12_Right.l2 kq (l0_2.length : Int) x4_2 x7_5 a0_0 a0_1 l0_2 true ((rd_T46 l0_2 x4_2).f1) ((rd_T46 l0_2 x4_2).f2) = some r) ∧ Aside0 (kq ≤ k4) ∧ Aside0 (w'.heap[gb307]? = some (.cells #[.int .u64 a0_0, .int .u64 a0_1, (.slice (some ad310) l0_2.length c0_2)] 30 (0, 0))) ∧ Aside0 (w'.heap[gb311]? = some (.cells #[.bool true, .string ((rd_T46 l0_2 x4_2).f1), .int .i64 ((rd_T46 l0_2 x4_2).f2)] 46 (0, 0))) ∧ Aside0 (Below w.heap.size w w'))
                case atStart => exact ⟨(0), (by first | rfl | (simp; done) | (simp [*]; done)), H', ⟨Nat.le_refl _⟩, ⟨pk BK307.out⟩, ⟨pk BK311.out⟩, ⟨pb HB⟩⟩
                case round =>
                 clear H'
                 try clear c1
                 try clear q1
                 try clear c2
                 try clear p2
                 try clear c3
                 try clear p3
                 try clear q3
                 try clear hx3
                 try clear c6
                 try clear p6
                 try clear c10
                 try clear c11
                 try clear c11b0
                 try clear c12
                 try clear c12b0
                 try clear c13
                 try clear c13b0
                 try clear q14
                 try clear c15
                 try clear c19
                 try clear c21
                 try clear c21b0
                 try clear c21b1
                 try clear c22
                 try clear c24
                 try clear c24b0
                 try clear c25
                 try clear c27
                 try clear c29
                 try clear c31
                 try clear p31
                 try clear q31
                 try clear hx31
                 try clear c35
                 try clear c35b0
                 try clear c35b1
                 try clear hcz17_0 hcz17_1 hcz17_2
                 try clear hcz20_0 hcz20_1 hcz20_2
                 try clear hcz23_0 hcz23_1 hcz23_2
                 try clear hcz26_0 hcz26_1 hcz26_2
                 try clear hcz28_0 hcz28_1 hcz28_2
                 try clear hcz32_0 hcz32_1 hcz32_2
                 try clear hcz33_0 hcz33_1 hcz33_2
                 try clear hcz4_0 hcz4_1 hcz4_2
                 try clear hcz8_0 hcz8_1 hcz8_2
                 try clear hfz17_0 hfz17_1 hfz17_2
                 try clear hfz20_0 hfz20_1 hfz20_2
                 try clear hfz23_0 hfz23_1 hfz23_2
                 try clear hfz26_0 hfz26_1 hfz26_2
                 try clear hfz28_0 hfz28_1 hfz28_2
                 try clear hfz32_0 hfz32_1 hfz32_2
                 try clear hfz33_0 hfz33_1 hfz33_2
                 try clear hfz4_0 hfz4_1 hfz4_2
                 try clear hfz8_0 hfz8_1 hfz8_2
                 try clear hx310_0
                 try clear hx310_1
                 try clear hx310_2
                 try clear p2
                 try clear p3
                 try clear p31
                 try clear p310
                 try clear p6
                 try clear q1
                 try clear q14
                 try clear q3
                 try clear q31
                 try clear q310
                 obtain ⟨x7_5, rfl, HA, HK5, BK307, BK311, HB⟩ := hrel
                 cases gk with
                 | zero => exact absurd HA.out (by simp [r12_Right.l2])
                 | succ k5 =>
                  have H := HA.out
                  clear HA
                  simp only [r12_Right.l2] at H
                  by_cases c36 : x7_5 < x4_2
                  ·rw [if_pos c36] at H
                   have c36b0 : decide (x7_5 < x4_2) = true := decide_eq_true c36
                   clear c36
                   by_cases c37 : 0 ≤ x7_5
                   ·rw [if_pos c37] at H
                    have c37b0 : decide (0 ≤ x7_5) = true := decide_eq_true c37
                    clear c37
                    by_cases c38 : x7_5 < (l0_2.length : Int)
                    ·rw [if_pos c38] at H
                     have c38b0 : decide (x7_5 < (l0_2.length : Int)) = true := decide_eq_true c38
                     clear c38
                     obtain ⟨bq39, hbq39⟩ : ∃ b_ : Bool, b_ = ((rd_T46 l0_2 x7_5).f0) := ⟨_, rfl⟩
                     replace H : (if bq39 = true then (if ((rd_T46 l0_2 x7_5).f1).toList = ((rd_T46 l0_2 x4_2).f1).toList then (some false) else (r12_Right.l2 k5 (l0_2.length : Int) x4_2 (wrap64 (x7_5 + 1)) a0_0 a0_1 l0_2 true ((rd_T46 l0_2 x4_2).f1) ((rd_T46 l0_2 x4_2).f2))) else (r12_Right.l2 k5 (l0_2.length : Int) x4_2 (wrap64 (x7_5 + 1)) a0_0 a0_1 l0_2 true ((rd_T46 l0_2 x4_2).f1) ((rd_T46 l0_2 x4_2).f2))) = some r := by rw [← hbq39] at H; exact H
                     have Nbq39 := am hbq39
                     clear hbq39
                     by_cases c40 : bq39 = true
                     ·subst c40
                      have H1 : (if ((rd_T46 l0_2 x7_5).f1).toList = ((rd_T46 l0_2 x4_2).f1).toList then (some false) else (r12_Right.l2 k5 (l0_2.length : Int) x4_2 (wrap64 (x7_5 + 1)) a0_0 a0_1 l0_2 true ((rd_T46 l0_2 x4_2).f1) ((rd_T46 l0_2 x4_2).f2))) = some r := by rw [if_pos rfl] at H; exact H
                      clear H
                      have H := H1
                      clear H1
                      by_cases c41 : ((rd_T46 l0_2 x7_5).f1).toList = ((rd_T46 l0_2 x4_2).f1).toList
                      ·rw [if_pos c41] at H
                       have c41b0 : (((rd_T46 l0_2 x7_5).f1).toList == ((rd_T46 l0_2 x4_2).f1).toList) = true := beq_iff_eq.mpr c41
                       have c41b1 : (((rd_T46 l0_2 x7_5).f1).toList != ((rd_T46 l0_2 x4_2).f1).toList) = false := bne_eq_false_iff_eq.mpr c41
                       clear c41
                       obtain rfl := Option.some.inj H
                       have hnb42 := NB307_311.out
                       have hnc42 := NB311_307.out
                       have hcz43_0 := ce BK307 0
                       have hcz43_1 := ce BK307 1
                       have hcz43_2 := ce BK307 2
                       have hfz43_0 := fz BK307 0
                       have hfz43_1 := fz BK307 1
                       have hfz43_2 := fz BK307 2
                       have p315 : 0 ≤ (x7_5 : Int) := of_decide_eq_true (by first | (with_reducible assumption) | assumption)
                       have q315 : x7_5 < (l0_2.length : Int) := of_decide_eq_true (by first | (with_reducible assumption) | assumption)
                       obtain ⟨ad315, e315, hx315_0, hx315_1, hx315_2⟩ := at_T46 HR0_2.out x7_5 p315 q315
                       (try rw [← Nbq14.out] at hx315_0)
                       (try rw [← Nbq39.out] at hx315_0)
                       obtain rfl : ad310 = ad315 := (by injection e315)
                       replace hx315_0 := (HB.out.cell (World.block_lt_of_cell? w _ hx315_0)).trans hx315_0
                       replace hx315_1 := (HB.out.cell (World.block_lt_of_cell? w _ hx315_1)).trans hx315_1
                       replace hx315_2 := (HB.out.cell (World.block_lt_of_cell? w _ hx315_2)).trans hx315_2
                       replace p315 := eq_true p315
                       replace q315 := eq_true q315
                       have p316 : 0 ≤ (x7_5 : Int) := of_decide_eq_true (by first | (with_reducible assumption) | assumption)
                       have q316 : x7_5 < (l0_2.length : Int) := of_decide_eq_true (by first | (with_reducible assumption) | assumption)
                       obtain ⟨ad316, e316, hx316_0, hx316_1, hx316_2⟩ := at_T46 HR0_2.out x7_5 p316 q316
                       (try rw [← Nbq14.out] at hx316_0)
                       (try rw [← Nbq39.out] at hx316_0)
                       obtain rfl : ad310 = ad316 := (by injection e316)
                       replace hx316_0 := (HB.out.cell (World.block_lt_of_cell? w _ hx316_0)).trans hx316_0
                       replace hx316_1 := (HB.out.cell (World.block_lt_of_cell? w _ hx316_1)).trans hx316_1
                       replace hx316_2 := (HB.out.cell (World.block_lt_of_cell? w _ hx316_2)).trans hx316_2
                       replace p316 := eq_true p316
                       replace q316 := eq_true q316
                       have hcz44_0 := ce BK311 0
                       have hcz44_1 : wr.cell? ⟨gb311, 1, none⟩ = some (.string ((rd_T46 l0_2 x4_2).f1)) := ce BK311 1
                       have hcz44_2 : wr.cell? ⟨gb311, 2, none⟩ = some (.int .i64 ((rd_T46 l0_2 x4_2).f2)) := ce BK311 2
                       have hfz44_0 := fz BK311 0
                       have hfz44_1 := fz BK311 1
                       have hfz44_2 := fz BK311 2
                       go_wp2
                       repeat (go_quiet (fail); try go_wp2)
                       go_ret
                       exact ⟨by first | rfl | (simp [errW_none, errW_some] <;> rfl) | (simp [*, errW_none, errW_some] <;> rfl), pb HB⟩
                      ·rw [if_neg c41] at H
                       have c41b0 : (((rd_T46 l0_2 x7_5).f1).toList == ((rd_T46 l0_2 x4_2).f1).toList) = false := beq_eq_false_iff_ne.mpr c41
                       have c41b1 : (((rd_T46 l0_2 x7_5).f1).toList != ((rd_T46 l0_2 x4_2).f1).toList) = true := bne_iff_ne.mpr c41
                       have H' := am H
                       clear H
                       have hnb45 := NB307_311.out
                       have hnc45 := NB311_307.out
                       have hcz46_0 := ce BK307 0
                       have hcz46_1 := ce BK307 1
                       have hcz46_2 := ce BK307 2
                       have hfz46_0 := fz BK307 0
                       have hfz46_1 := fz BK307 1
                       have hfz46_2 := fz BK307 2
                       have p315 : 0 ≤ (x7_5 : Int) := of_decide_eq_true (by first | (with_reducible assumption) | assumption)
                       have q315 : x7_5 < (l0_2.length : Int) := of_decide_eq_true (by first | (with_reducible assumption) | assumption)
                       obtain ⟨ad315, e315, hx315_0, hx315_1, hx315_2⟩ := at_T46 HR0_2.out x7_5 p315 q315
                       (try rw [← Nbq14.out] at hx315_0)
                       (try rw [← Nbq39.out] at hx315_0)
                       obtain rfl : ad310 = ad315 := (by injection e315)
                       replace hx315_0 := (HB.out.cell (World.block_lt_of_cell? w _ hx315_0)).trans hx315_0
                       replace hx315_1 := (HB.out.cell (World.block_lt_of_cell? w _ hx315_1)).trans hx315_1
                       replace hx315_2 := (HB.out.cell (World.block_lt_of_cell? w _ hx315_2)).trans hx315_2
                       replace p315 := eq_true p315
                       replace q315 := eq_true q315
                       have p316 : 0 ≤ (x7_5 : Int) := of_decide_eq_true (by first | (with_reducible assumption) | assumption)
                       have q316 : x7_5 < (l0_2.length : Int) := of_decide_eq_true (by first | (with_reducible assumption) | assumption)
                       obtain ⟨ad316, e316, hx316_0, hx316_1, hx316_2⟩ := at_T46 HR0_2.out x7_5 p316 q316
                       (try rw [← Nbq14.out] at hx316_0)
                       (try rw [← Nbq39.out] at hx316_0)
                       obtain rfl : ad310 = ad316 := (by injection e316)
                       replace hx316_0 := (HB.out.cell (World.block_lt_of_cell? w _ hx316_0)).trans hx316_0
                       replace hx316_1 := (HB.out.cell (World.block_lt_of_cell? w _ hx316_1)).trans hx316_1
                       replace hx316_2 := (HB.out.cell (World.block_lt_of_cell? w _ hx316_2)).trans hx316_2
                       replace p316 := eq_true p316
                       replace q316 := eq_true q316
                       have hcz47_0 := ce BK311 0
                       have hcz47_1 : wr.cell? ⟨gb311, 1, none⟩ = some (.string ((rd_T46 l0_2 x4_2).f1)) := ce BK311 1
                       have hcz47_2 : wr.cell? ⟨gb311, 2, none⟩ = some (.int .i64 ((rd_T46 l0_2 x4_2).f2)) := ce BK311 2
                       have hfz47_0 := fz BK311 0
                       have hfz47_1 := fz BK311 1
                       have hfz47_2 := fz BK311 2
                       go_wp2
                       repeat (go_quiet (fail); try go_wp2)
                       go_roundg k5
                       case measure => have := HJ1.out; have := HK2.out; have := HJ15.out; have := HK4.out; have := HK5.out; omega
                       case rel => exact ⟨(wrap64 (x7_5 + 1)), (by first | rfl | (simp; done) | (simp [*]; done)), H', ⟨by have := HJ1.out; have := HK2.out; have := HJ15.out; have := HK4.out; have := HK5.out; omega⟩, ⟨pk BK307.out⟩, ⟨pk BK311.out⟩, ⟨pb HB⟩⟩
                     ·replace c40 := Bool.eq_false_iff.mpr c40
                      subst c40
                      have H1 : (r12_Right.l2 k5 (l0_2.length : Int) x4_2 (wrap64 (x7_5 + 1)) a0_0 a0_1 l0_2 true ((rd_T46 l0_2 x4_2).f1) ((rd_T46 l0_2 x4_2).f2)) = some r := by rw [if_neg (show ¬ (false = true) by decide)] at H; exact H
                      clear H
                      have H := H1
                      clear H1
                      have H' := am H
                      clear H
                      have hnb48 := NB307_311.out
                      have hnc48 := NB311_307.out
                      have hcz49_0 := ce BK307 0
                      have hcz49_1 := ce BK307 1
                      have hcz49_2 := ce BK307 2
                      have hfz49_0 := fz BK307 0
                      have hfz49_1 := fz BK307 1
                      have hfz49_2 := fz BK307 2
                      have p315 : 0 ≤ (x7_5 : Int) := of_decide_eq_true (by first | (with_reducible assumption) | assumption)
                      have q315 : x7_5 < (l0_2.length : Int) := of_decide_eq_true (by first | (with_reducible assumption) | assumption)
                      obtain ⟨ad315, e315, hx315_0, hx315_1, hx315_2⟩ := at_T46 HR0_2.out x7_5 p315 q315
                      (try rw [← Nbq14.out] at hx315_0)
                      (try rw [← Nbq39.out] at hx315_0)
                      obtain rfl : ad310 = ad315 := (by injection e315)
                      replace hx315_0 := (HB.out.cell (World.block_lt_of_cell? w _ hx315_0)).trans hx315_0
                      replace hx315_1 := (HB.out.cell (World.block_lt_of_cell? w _ hx315_1)).trans hx315_1
                      replace hx315_2 := (HB.out.cell (World.block_lt_of_cell? w _ hx315_2)).trans hx315_2
                      replace p315 := eq_true p315
                      replace q315 := eq_true q315
                      go_wp2
                      repeat (go_quiet (fail); try go_wp2)
                      go_roundg k5
                      case measure => have := HJ1.out; have := HK2.out; have := HJ15.out; have := HK4.out; have := HK5.out; omega
                      case rel => exact ⟨(wrap64 (x7_5 + 1)), (by first | rfl | (simp; done) | (simp [*]; done)), H', ⟨by have := HJ1.out; have := HK2.out; have := HJ15.out; have := HK4.out; have := HK5.out; omega⟩, ⟨pk BK307.out⟩, ⟨pk BK311.out⟩, ⟨pb HB⟩⟩
                    ·rw [if_neg c38] at H
                     exact absurd H (by simp)
                   ·rw [if_neg c37] at H
                    exact absurd H (by simp)
                  ·rw [if_neg c36] at H
                   have c36b0 : decide (x7_5 < x4_2) = false := decide_eq_false c36
                   clear c36
                   have H' := am H
                   clear H
                   go_wp2
                   repeat (go_quiet (fail); try go_wp2)
                   go_roundg k5
                   case measure => have := HJ1.out; have := HK2.out; have := HJ15.out; have := HK4.out; have := HK5.out; omega
                   case rel => exact ⟨(wrap64 (x4_2 + 1)), (by first | rfl | (simp; done) | (simp [*]; done)), H', ⟨by have := HJ1.out; have := HK2.out; have := HJ15.out; have := HK4.out; have := HK5.out; omega⟩, ⟨pk BK307.out⟩, ⟨pb HB⟩⟩
               ·rw [if_neg c35] at H
                have c35b0 : (x6_4 == x4_2) = false := beq_eq_false_iff_ne.mpr c35
                have c35b1 : (x6_4 != x4_2) = true := bne_iff_ne.mpr c35
                by_cases c50 : 0 ≤ x6_4
                ·rw [if_pos c50] at H
                 have c50b0 : decide (0 ≤ x6_4) = true := decide_eq_true c50
                 clear c50
                 by_cases c51 : x6_4 < (l0_2.length : Int)
                 ·rw [if_pos c51] at H
                  have c51b0 : decide (x6_4 < (l0_2.length : Int)) = true := decide_eq_true c51
                  clear c51
                  obtain ⟨bq52, hbq52⟩ : ∃ b_ : Bool, b_ = ((rd_T46 l0_2 x6_4).f0) := ⟨_, rfl⟩
                  replace H : (if (bq52 = true) then (if ((rd_T46 l0_2 x6_4).f1).toList = ((rd_T46 l0_2 x4_2).f1).toList then (some false) else (if (l0_2.length : Int) = 0 then (none) else (r12_Right.l1 k4 (l0_2.length : Int) x4_2 (Int.tmod (wrap64 (x6_4 + 1)) (l0_2.length : Int)) a0_0 a0_1 l0_2 true ((rd_T46 l0_2 x4_2).f1) ((rd_T46 l0_2 x4_2).f2)))) else (some false)) = some r := by rw [← hbq52] at H; exact H
                  have Nbq52 := am hbq52
                  clear hbq52
                  by_cases c53 : (bq52 = true)
                  ·subst c53
                   have H1 : (if ((rd_T46 l0_2 x6_4).f1).toList = ((rd_T46 l0_2 x4_2).f1).toList then (some false) else (if (l0_2.length : Int) = 0 then (none) else (r12_Right.l1 k4 (l0_2.length : Int) x4_2 (Int.tmod (wrap64 (x6_4 + 1)) (l0_2.length : Int)) a0_0 a0_1 l0_2 true ((rd_T46 l0_2 x4_2).f1) ((rd_T46 l0_2 x4_2).f2)))) = some r := by rw [if_pos rfl] at H; exact H
                   clear H
                   have H := H1
                   clear H1
                   by_cases c54 : ((rd_T46 l0_2 x6_4).f1).toList = ((rd_T46 l0_2 x4_2).f1).toList
                   ·rw [if_pos c54] at H
                    have c54b0 : (((rd_T46 l0_2 x6_4).f1).toList == ((rd_T46 l0_2 x4_2).f1).toList) = true := beq_iff_eq.mpr c54
                    have c54b1 : (((rd_T46 l0_2 x6_4).f1).toList != ((rd_T46 l0_2 x4_2).f1).toList) = false := bne_eq_false_iff_eq.mpr c54
                    clear c54
                    obtain rfl := Option.some.inj H
                    have hnb55 := NB307_311.out
                    have hnc55 := NB311_307.out
                    have hcz56_0 := ce BK307 0
                    have hcz56_1 := ce BK307 1
                    have hcz56_2 := ce BK307 2
                    have hfz56_0 := fz BK307 0
                    have hfz56_1 := fz BK307 1
                    have hfz56_2 := fz BK307 2
                    have p313 : 0 ≤ (x6_4 : Int) := of_decide_eq_true (by first | (with_reducible assumption) | assumption)
                    have q313 : x6_4 < (l0_2.length : Int) := of_decide_eq_true (by first | (with_reducible assumption) | assumption)
                    obtain ⟨ad313, e313, hx313_0, hx313_1, hx313_2⟩ := at_T46 HR0_2.out x6_4 p313 q313
                    (try rw [← Nbq14.out] at hx313_0)
                    (try rw [← Nbq52.out] at hx313_0)
                    obtain rfl : ad310 = ad313 := (by injection e313)
                    replace hx313_0 := (HB.out.cell (World.block_lt_of_cell? w _ hx313_0)).trans hx313_0
                    replace hx313_1 := (HB.out.cell (World.block_lt_of_cell? w _ hx313_1)).trans hx313_1
                    replace hx313_2 := (HB.out.cell (World.block_lt_of_cell? w _ hx313_2)).trans hx313_2
                    replace p313 := eq_true p313
                    replace q313 := eq_true q313
                    have p314 : 0 ≤ (x6_4 : Int) := of_decide_eq_true (by first | (with_reducible assumption) | assumption)
                    have q314 : x6_4 < (l0_2.length : Int) := of_decide_eq_true (by first | (with_reducible assumption) | assumption)
                    obtain ⟨ad314, e314, hx314_0, hx314_1, hx314_2⟩ := at_T46 HR0_2.out x6_4 p314 q314
                    (try rw [← Nbq14.out] at hx314_0)
                    (try rw [← Nbq52.out] at hx314_0)
                    obtain rfl : ad310 = ad314 := (by injection e314)
                    replace hx314_0 := (HB.out.cell (World.block_lt_of_cell? w _ hx314_0)).trans hx314_0
                    replace hx314_1 := (HB.out.cell (World.block_lt_of_cell? w _ hx314_1)).trans hx314_1
                    replace hx314_2 := (HB.out.cell (World.block_lt_of_cell? w _ hx314_2)).trans hx314_2
                    replace p314 := eq_true p314
                    replace q314 := eq_true q314
                    have hcz57_0 := ce BK311 0
                    have hcz57_1 : wr.cell? ⟨gb311, 1, none⟩ = some (.string ((rd_T46 l0_2 x4_2).f1)) := ce BK311 1
                    have hcz57_2 : wr.cell? ⟨gb311, 2, none⟩ = some (.int .i64 ((rd_T46 l0_2 x4_2).f2)) := ce BK311 2
                    have hfz57_0 := fz BK311 0
                    have hfz57_1 := fz BK311 1
                    have hfz57_2 := fz BK311 2
                    go_wp2
                    repeat (go_quiet (fail); try go_wp2)
                    go_ret
                    exact ⟨by first | rfl | (simp [errW_none, errW_some] <;> rfl) | (simp [*, errW_none, errW_some] <;> rfl), pb HB⟩
                   ·rw [if_neg c54] at H
                    have c54b0 : (((rd_T46 l0_2 x6_4).f1).toList == ((rd_T46 l0_2 x4_2).f1).toList) = false := beq_eq_false_iff_ne.mpr c54
                    have c54b1 : (((rd_T46 l0_2 x6_4).f1).toList != ((rd_T46 l0_2 x4_2).f1).toList) = true := bne_iff_ne.mpr c54
                    by_cases c58 : (l0_2.length : Int) = 0
                    ·rw [if_pos c58] at H
                     exact absurd H (by simp)
                    ·rw [if_neg c58] at H
                     have c58b0 : ((l0_2.length : Int) == 0) = false := beq_eq_false_iff_ne.mpr c58
                     have c58b1 : ((l0_2.length : Int) != 0) = true := bne_iff_ne.mpr c58
                     have c58b2 : ¬ (l0_2 = []) := fun h_ => c58 (by rw [h_]; rfl)
                     have H' := am H
                     clear H
                     have hnb59 := NB307_311.out
                     have hnc59 := NB311_307.out
                     have hcz60_0 := ce BK307 0
                     have hcz60_1 := ce BK307 1
                     have hcz60_2 := ce BK307 2
                     have hfz60_0 := fz BK307 0
                     have hfz60_1 := fz BK307 1
                     have hfz60_2 := fz BK307 2
                     have p313 : 0 ≤ (x6_4 : Int) := of_decide_eq_true (by first | (with_reducible assumption) | assumption)
                     have q313 : x6_4 < (l0_2.length : Int) := of_decide_eq_true (by first | (with_reducible assumption) | assumption)
                     obtain ⟨ad313, e313, hx313_0, hx313_1, hx313_2⟩ := at_T46 HR0_2.out x6_4 p313 q313
                     (try rw [← Nbq14.out] at hx313_0)
                     (try rw [← Nbq52.out] at hx313_0)
                     obtain rfl : ad310 = ad313 := (by injection e313)
                     replace hx313_0 := (HB.out.cell (World.block_lt_of_cell? w _ hx313_0)).trans hx313_0
                     replace hx313_1 := (HB.out.cell (World.block_lt_of_cell? w _ hx313_1)).trans hx313_1
                     replace hx313_2 := (HB.out.cell (World.block_lt_of_cell? w _ hx313_2)).trans hx313_2
                     replace p313 := eq_true p313
                     replace q313 := eq_true q313
                     have p314 : 0 ≤ (x6_4 : Int) := of_decide_eq_true (by first | (with_reducible assumption) | assumption)
                     have q314 : x6_4 < (l0_2.length : Int) := of_decide_eq_true (by first | (with_reducible assumption) | assumption)
                     obtain ⟨ad314, e314, hx314_0, hx314_1, hx314_2⟩ := at_T46 HR0_2.out x6_4 p314 q314
                     (try rw [← Nbq14.out] at hx314_0)
                     (try rw [← Nbq52.out] at hx314_0)
                     obtain rfl : ad310 = ad314 := (by injection e314)
                     replace hx314_0 := (HB.out.cell (World.block_lt_of_cell? w _ hx314_0)).trans hx314_0
                     replace hx314_1 := (HB.out.cell (World.block_lt_of_cell? w _ hx314_1)).trans hx314_1
                     replace hx314_2 := (HB.out.cell (World.block_lt_of_cell? w _ hx314_2)).trans hx314_2
                     replace p314 := eq_true p314
                     replace q314 := eq_true q314
                     have hcz61_0 := ce BK311 0
                     have hcz61_1 : wr.cell? ⟨gb311, 1, none⟩ = some (.string ((rd_T46 l0_2 x4_2).f1)) := ce BK311 1
                     have hcz61_2 : wr.cell? ⟨gb311, 2, none⟩ = some (.int .i64 ((rd_T46 l0_2 x4_2).f2)) := ce BK311 2
                     have hfz61_0 := fz BK311 0
                     have hfz61_1 := fz BK311 1
                     have hfz61_2 := fz BK311 2
                     go_wp2
                     repeat (go_quiet (fail); try go_wp2)
                     go_roundg k4
                     case measure => have := HJ1.out; have := HK2.out; have := HJ15.out; have := HK4.out; omega
                     case rel => exact ⟨(Int.tmod (wrap64 (x6_4 + 1)) (l0_2.length : Int)), (by first | rfl | (simp; done) | (simp [*]; done)), H', ⟨by have := HJ1.out; have := HK2.out; have := HJ15.out; have := HK4.out; omega⟩, ⟨pk BK307.out⟩, ⟨pk BK311.out⟩, ⟨pb HB⟩⟩
                  ·replace c53 := Bool.eq_false_iff.mpr c53
                   subst c53
                   have H1 : (some false) = some r := by rw [if_neg (show ¬ (false = true) by decide)] at H; exact H
                   clear H
                   have H := H1
                   clear H1
                   obtain rfl := Option.some.inj H
                   have hnb62 := NB307_311.out
                   have hnc62 := NB311_307.out
                   have hcz63_0 := ce BK307 0
                   have hcz63_1 := ce BK307 1
                   have hcz63_2 := ce BK307 2
                   have hfz63_0 := fz BK307 0
                   have hfz63_1 := fz BK307 1
                   have hfz63_2 := fz BK307 2
                   have p313 : 0 ≤ (x6_4 : Int) := of_decide_eq_true (by first | (with_reducible assumption) | assumption)
                   have q313 : x6_4 < (l0_2.length : Int) := of_decide_eq_true (by first | (with_reducible assumption) | assumption)
                   obtain ⟨ad313, e313, hx313_0, hx313_1, hx313_2⟩ := at_T46 HR0_2.out x6_4 p313 q313
                   (try rw [← Nbq14.out] at hx313_0)
                   (try rw [← Nbq52.out] at hx313_0)
                   obtain rfl : ad310 = ad313 := (by injection e313)
                   replace hx313_0 := (HB.out.cell (World.block_lt_of_cell? w _ hx313_0)).trans hx313_0
                   replace hx313_1 := (HB.out.cell (World.block_lt_of_cell? w _ hx313_1)).trans hx313_1
                   replace hx313_2 := (HB.out.cell (World.block_lt_of_cell? w _ hx313_2)).trans hx313_2
                   replace p313 := eq_true p313
                   replace q313 := eq_true q313
                   go_wp2
                   repeat (go_quiet (fail); try go_wp2)
                   go_ret
                   exact ⟨by first | rfl | (simp [errW_none, errW_some] <;> rfl) | (simp [*, errW_none, errW_some] <;> rfl), pb HB⟩
                 ·rw [if_neg c51] at H
                  exact absurd H (by simp)
                ·rw [if_neg c50] at H
                 exact absurd H (by simp)
         ·replace c15 := Bool.eq_false_iff.mpr c15
          subst c15
          have H1 : (if ((rd_T46 l0_2 x4_2).f1).toList = ([] : List UInt8) then (if ((rd_T46 l0_2 x4_2).f2) = 0 then (r12_Right.l0 k2 (l0_2.length : Int) (wrap64 (x4_2 + 1)) a0_0 a0_1 l0_2) else (some false)) else (some false)) = some r := by rw [if_neg (show ¬ (false = true) by decide)] at H; exact H
          clear H
          have H := H1
          clear H1
          by_cases c64 : ((rd_T46 l0_2 x4_2).f1).toList = ([] : List UInt8)
          ·rw [if_pos c64] at H
           have c64b0 : (((rd_T46 l0_2 x4_2).f1).toList == ([] : List UInt8)) = true := beq_iff_eq.mpr c64
           have c64b1 : (((rd_T46 l0_2 x4_2).f1).toList != ([] : List UInt8)) = false := bne_eq_false_iff_eq.mpr c64
           clear c64
           by_cases c65 : ((rd_T46 l0_2 x4_2).f2) = 0
           ·rw [if_pos c65] at H
            have c65b0 : (((rd_T46 l0_2 x4_2).f2) == 0) = true := beq_iff_eq.mpr c65
            have c65b1 : (((rd_T46 l0_2 x4_2).f2) != 0) = false := bne_eq_false_iff_eq.mpr c65
            clear c65
            have H' := am H
            clear H
            have hcz66_0 := ce BK307 0
            have hcz66_1 := ce BK307 1
            have hcz66_2 := ce BK307 2
            have hfz66_0 := fz BK307 0
            have hfz66_1 := fz BK307 1
            have hfz66_2 := fz BK307 2
            have p310 : 0 ≤ (x4_2 : Int) := of_decide_eq_true (by first | (with_reducible assumption) | assumption)
            have q310 : x4_2 < (l0_2.length : Int) := of_decide_eq_true (by first | (with_reducible assumption) | assumption)
            obtain ⟨ad310, e310, hx310_0, hx310_1, hx310_2⟩ := at_T46 HR0_2.out x4_2 p310 q310
            (try rw [← Nbq14.out] at hx310_0)
            cases e310
            replace hx310_0 := (HB.out.cell (World.block_lt_of_cell? w _ hx310_0)).trans hx310_0
            replace hx310_1 := (HB.out.cell (World.block_lt_of_cell? w _ hx310_1)).trans hx310_1
            replace hx310_2 := (HB.out.cell (World.block_lt_of_cell? w _ hx310_2)).trans hx310_2
            replace p310 := eq_true p310
            replace q310 := eq_true q310
            go_wp2_with (first | ((with_reducible refine gate_dst (N := 5) rfl ?_); refine be 5 #[.bool false, .string (⟨#[]⟩ : ByteArray), .int .i64 0] 46 ?_; intro gb311 hg w67 hbox hb; have n0_ := am (blk_below (pk BK307.out) hb); have n1_ := am (below_step (pb HB) hb); have n2_ := am (hbox); have n3_ := am ((pg hg HB : w.heap.size ≤ gb311)); have n4_ := am ((pg hg HB : w.heap.size ≤ gb311)); have n5_ := am ((pl hg (pk BK307.out) : gb307 ≠ gb311)); have n6_ := am ((pl' hg (pk BK307.out) : gb311 ≠ gb307)); clear BK307; clear HB; have BK307 := n0_; have HB := n1_; have BK311 := n2_; have GW311 := n3_; have GE311 := n4_; have NB307_311 := n5_; have NB311_307 := n6_; clear n0_ n1_ n2_ n3_ n4_ n5_ n6_; clear hb hbox hg; have hnb68 := NB311_307.out; have hnc68 := NB307_311.out; have hcz69_0 := ce BK311 0; have hcz69_1 := ce BK311 1; have hcz69_2 := ce BK311 2; have hfz69_0 := fz BK311 0; have hfz69_1 := fz BK311 1; have hfz69_2 := fz BK311 2))
            repeat (go_quiet (first | ((with_reducible refine gate_dst (N := 5) rfl ?_); refine be 5 #[.bool false, .string (⟨#[]⟩ : ByteArray), .int .i64 0] 46 ?_; intro gb311 hg w67 hbox hb; have n0_ := am (blk_below (pk BK307.out) hb); have n1_ := am (below_step (pb HB) hb); have n2_ := am (hbox); have n3_ := am ((pg hg HB : w.heap.size ≤ gb311)); have n4_ := am ((pg hg HB : w.heap.size ≤ gb311)); have n5_ := am ((pl hg (pk BK307.out) : gb307 ≠ gb311)); have n6_ := am ((pl' hg (pk BK307.out) : gb311 ≠ gb307)); clear BK307; clear HB; have BK307 := n0_; have HB := n1_; have BK311 := n2_; have GW311 := n3_; have GE311 := n4_; have NB307_311 := n5_; have NB311_307 := n6_; clear n0_ n1_ n2_ n3_ n4_ n5_ n6_; clear hb hbox hg; have hnb68 := NB311_307.out; have hnc68 := NB307_311.out; have hcz69_0 := ce BK311 0; have hcz69_1 := ce BK311 1; have hcz69_2 := ce BK311 2; have hfz69_0 := fz BK311 0; have hfz69_1 := fz BK311 1; have hfz69_2 := fz BK311 2)); try go_wp2_with (first | ((with_reducible refine gate_dst (N := 5) rfl ?_); refine be 5 #[.bool false, .string (⟨#[]⟩ : ByteArray), .int .i64 0] 46 ?_; intro gb311 hg w67 hbox hb; have n0_ := am (blk_below (pk BK307.out) hb); have n1_ := am (below_step (pb HB) hb); have n2_ := am (hbox); have n3_ := am ((pg hg HB : w.heap.size ≤ gb311)); have n4_ := am ((pg hg HB : w.heap.size ≤ gb311)); have n5_ := am ((pl hg (pk BK307.out) : gb307 ≠ gb311)); have n6_ := am ((pl' hg (pk BK307.out) : gb311 ≠ gb307)); clear BK307; clear HB; have BK307 := n0_; have HB := n1_; have BK311 := n2_; have GW311 := n3_; have GE311 := n4_; have NB307_311 := n5_; have NB311_307 := n6_; clear n0_ n1_ n2_ n3_ n4_ n5_ n6_; clear hb hbox hg; have hnb68 := NB311_307.out; have hnc68 := NB307_311.out; have hcz69_0 := ce BK311 0; have hcz69_1 := ce BK311 1; have hcz69_2 := ce BK311 2; have hfz69_0 := fz BK311 0; have hfz69_1 := fz BK311 1; have hfz69_2 := fz BK311 2)))
            go_roundg k2
            case measure => have := HJ1.out; have := HK2.out; omega
            case rel => exact ⟨(wrap64 (x4_2 + 1)), (by first | rfl | (simp; done) | (simp [*]; done)), H', ⟨by have := HJ1.out; have := HK2.out; omega⟩, ⟨by refine pk ?_; refine blk_far ?_ NB307_311.out _; refine pk ?_; refine blk_far ?_ NB307_311.out _; refine pk ?_; refine blk_far ?_ NB307_311.out _; refine pk ?_; exact BK307.out⟩, ⟨pb HB⟩⟩
           ·rw [if_neg c65] at H
            have c65b0 : (((rd_T46 l0_2 x4_2).f2) == 0) = false := beq_eq_false_iff_ne.mpr c65
            have c65b1 : (((rd_T46 l0_2 x4_2).f2) != 0) = true := bne_iff_ne.mpr c65
            obtain rfl := Option.some.inj H
            have hcz70_0 := ce BK307 0
            have hcz70_1 := ce BK307 1
            have hcz70_2 := ce BK307 2
            have hfz70_0 := fz BK307 0
            have hfz70_1 := fz BK307 1
            have hfz70_2 := fz BK307 2
            have p310 : 0 ≤ (x4_2 : Int) := of_decide_eq_true (by first | (with_reducible assumption) | assumption)
            have q310 : x4_2 < (l0_2.length : Int) := of_decide_eq_true (by first | (with_reducible assumption) | assumption)
            obtain ⟨ad310, e310, hx310_0, hx310_1, hx310_2⟩ := at_T46 HR0_2.out x4_2 p310 q310
            (try rw [← Nbq14.out] at hx310_0)
            cases e310
            replace hx310_0 := (HB.out.cell (World.block_lt_of_cell? w _ hx310_0)).trans hx310_0
            replace hx310_1 := (HB.out.cell (World.block_lt_of_cell? w _ hx310_1)).trans hx310_1
            replace hx310_2 := (HB.out.cell (World.block_lt_of_cell? w _ hx310_2)).trans hx310_2
            replace p310 := eq_true p310
            replace q310 := eq_true q310
            go_wp2_with (first | ((with_reducible refine gate_dst (N := 5) rfl ?_); refine be 5 #[.bool false, .string (⟨#[]⟩ : ByteArray), .int .i64 0] 46 ?_; intro gb311 hg w71 hbox hb; have n0_ := am (blk_below (pk BK307.out) hb); have n1_ := am (below_step (pb HB) hb); have n2_ := am (hbox); have n3_ := am ((pg hg HB : w.heap.size ≤ gb311)); have n4_ := am ((pg hg HB : w.heap.size ≤ gb311)); have n5_ := am ((pl hg (pk BK307.out) : gb307 ≠ gb311)); have n6_ := am ((pl' hg (pk BK307.out) : gb311 ≠ gb307)); clear BK307; clear HB; have BK307 := n0_; have HB := n1_; have BK311 := n2_; have GW311 := n3_; have GE311 := n4_; have NB307_311 := n5_; have NB311_307 := n6_; clear n0_ n1_ n2_ n3_ n4_ n5_ n6_; clear hb hbox hg; have hnb72 := NB311_307.out; have hnc72 := NB307_311.out; have hcz73_0 := ce BK311 0; have hcz73_1 := ce BK311 1; have hcz73_2 := ce BK311 2; have hfz73_0 := fz BK311 0; have hfz73_1 := fz BK311 1; have hfz73_2 := fz BK311 2))
            repeat (go_quiet (first | ((with_reducible refine gate_dst (N := 5) rfl ?_); refine be 5 #[.bool false, .string (⟨#[]⟩ : ByteArray), .int .i64 0] 46 ?_; intro gb311 hg w71 hbox hb; have n0_ := am (blk_below (pk BK307.out) hb); have n1_ := am (below_step (pb HB) hb); have n2_ := am (hbox); have n3_ := am ((pg hg HB : w.heap.size ≤ gb311)); have n4_ := am ((pg hg HB : w.heap.size ≤ gb311)); have n5_ := am ((pl hg (pk BK307.out) : gb307 ≠ gb311)); have n6_ := am ((pl' hg (pk BK307.out) : gb311 ≠ gb307)); clear BK307; clear HB; have BK307 := n0_; have HB := n1_; have BK311 := n2_; have GW311 := n3_; have GE311 := n4_; have NB307_311 := n5_; have NB311_307 := n6_; clear n0_ n1_ n2_ n3_ n4_ n5_ n6_; clear hb hbox hg; have hnb72 := NB311_307.out; have hnc72 := NB307_311.out; have hcz73_0 := ce BK311 0; have hcz73_1 := ce BK311 1; have hcz73_2 := ce BK311 2; have hfz73_0 := fz BK311 0; have hfz73_1 := fz BK311 1; have hfz73_2 := fz BK311 2)); try go_wp2_with (first | ((with_reducible refine gate_dst (N := 5) rfl ?_); refine be 5 #[.bool false, .string (⟨#[]⟩ : ByteArray), .int .i64 0] 46 ?_; intro gb311 hg w71 hbox hb; have n0_ := am (blk_below (pk BK307.out) hb); have n1_ := am (below_step (pb HB) hb); have n2_ := am (hbox); have n3_ := am ((pg hg HB : w.heap.size ≤ gb311)); have n4_ := am ((pg hg HB : w.heap.size ≤ gb311)); have n5_ := am ((pl hg (pk BK307.out) : gb307 ≠ gb311)); have n6_ := am ((pl' hg (pk BK307.out) : gb311 ≠ gb307)); clear BK307; clear HB; have BK307 := n0_; have HB := n1_; have BK311 := n2_; have GW311 := n3_; have GE311 := n4_; have NB307_311 := n5_; have NB311_307 := n6_; clear n0_ n1_ n2_ n3_ n4_ n5_ n6_; clear hb hbox hg; have hnb72 := NB311_307.out; have hnc72 := NB307_311.out; have hcz73_0 := ce BK311 0; have hcz73_1 := ce BK311 1; have hcz73_2 := ce BK311 2; have hfz73_0 := fz BK311 0; have hfz73_1 := fz BK311 1; have hfz73_2 := fz BK311 2)))
            go_ret
            exact ⟨by first | rfl | (simp [errW_none, errW_some] <;> rfl) | (simp [*, errW_none, errW_some] <;> rfl), pb HB⟩
          ·rw [if_neg c64] at H
           have c64b0 : (((rd_T46 l0_2 x4_2).f1).toList == ([] : List UInt8)) = false := beq_eq_false_iff_ne.mpr c64
           have c64b1 : (((rd_T46 l0_2 x4_2).f1).toList != ([] : List UInt8)) = true := bne_iff_ne.mpr c64
           obtain rfl := Option.some.inj H
           have hcz74_0 := ce BK307 0
           have hcz74_1 := ce BK307 1
           have hcz74_2 := ce BK307 2
           have hfz74_0 := fz BK307 0
           have hfz74_1 := fz BK307 1
           have hfz74_2 := fz BK307 2
           have p310 : 0 ≤ (x4_2 : Int) := of_decide_eq_true (by first | (with_reducible assumption) | assumption)
           have q310 : x4_2 < (l0_2.length : Int) := of_decide_eq_true (by first | (with_reducible assumption) | assumption)
           obtain ⟨ad310, e310, hx310_0, hx310_1, hx310_2⟩ := at_T46 HR0_2.out x4_2 p310 q310
           (try rw [← Nbq14.out] at hx310_0)
           cases e310
           replace hx310_0 := (HB.out.cell (World.block_lt_of_cell? w _ hx310_0)).trans hx310_0
           replace hx310_1 := (HB.out.cell (World.block_lt_of_cell? w _ hx310_1)).trans hx310_1
           replace hx310_2 := (HB.out.cell (World.block_lt_of_cell? w _ hx310_2)).trans hx310_2
           replace p310 := eq_true p310
           replace q310 := eq_true q310
           go_wp2_with (first | ((with_reducible refine gate_dst (N := 5) rfl ?_); refine be 5 #[.bool false, .string (⟨#[]⟩ : ByteArray), .int .i64 0] 46 ?_; intro gb311 hg w75 hbox hb; have n0_ := am (blk_below (pk BK307.out) hb); have n1_ := am (below_step (pb HB) hb); have n2_ := am (hbox); have n3_ := am ((pg hg HB : w.heap.size ≤ gb311)); have n4_ := am ((pg hg HB : w.heap.size ≤ gb311)); have n5_ := am ((pl hg (pk BK307.out) : gb307 ≠ gb311)); have n6_ := am ((pl' hg (pk BK307.out) : gb311 ≠ gb307)); clear BK307; clear HB; have BK307 := n0_; have HB := n1_; have BK311 := n2_; have GW311 := n3_; have GE311 := n4_; have NB307_311 := n5_; have NB311_307 := n6_; clear n0_ n1_ n2_ n3_ n4_ n5_ n6_; clear hb hbox hg; have hnb76 := NB311_307.out; have hnc76 := NB307_311.out; have hcz77_0 := ce BK311 0; have hcz77_1 := ce BK311 1; have hcz77_2 := ce BK311 2; have hfz77_0 := fz BK311 0; have hfz77_1 := fz BK311 1; have hfz77_2 := fz BK311 2))
           repeat (go_quiet (first | ((with_reducible refine gate_dst (N := 5) rfl ?_); refine be 5 #[.bool false, .string (⟨#[]⟩ : ByteArray), .int .i64 0] 46 ?_; intro gb311 hg w75 hbox hb; have n0_ := am (blk_below (pk BK307.out) hb); have n1_ := am (below_step (pb HB) hb); have n2_ := am (hbox); have n3_ := am ((pg hg HB : w.heap.size ≤ gb311)); have n4_ := am ((pg hg HB : w.heap.size ≤ gb311)); have n5_ := am ((pl hg (pk BK307.out) : gb307 ≠ gb311)); have n6_ := am ((pl' hg (pk BK307.out) : gb311 ≠ gb307)); clear BK307; clear HB; have BK307 := n0_; have HB := n1_; have BK311 := n2_; have GW311 := n3_; have GE311 := n4_; have NB307_311 := n5_; have NB311_307 := n6_; clear n0_ n1_ n2_ n3_ n4_ n5_ n6_; clear hb hbox hg; have hnb76 := NB311_307.out; have hnc76 := NB307_311.out; have hcz77_0 := ce BK311 0; have hcz77_1 := ce BK311 1; have hcz77_2 := ce BK311 2; have hfz77_0 := fz BK311 0; have hfz77_1 := fz BK311 1; have hfz77_2 := fz BK311 2)); try go_wp2_with (first | ((with_reducible refine gate_dst (N := 5) rfl ?_); refine be 5 #[.bool false, .string (⟨#[]⟩ : ByteArray), .int .i64 0] 46 ?_; intro gb311 hg w75 hbox hb; have n0_ := am (blk_below (pk BK307.out) hb); have n1_ := am (below_step (pb HB) hb); have n2_ := am (hbox); have n3_ := am ((pg hg HB : w.heap.size ≤ gb311)); have n4_ := am ((pg hg HB : w.heap.size ≤ gb311)); have n5_ := am ((pl hg (pk BK307.out) : gb307 ≠ gb311)); have n6_ := am ((pl' hg (pk BK307.out) : gb311 ≠ gb307)); clear BK307; clear HB; have BK307 := n0_; have HB := n1_; have BK311 := n2_; have GW311 := n3_; have GE311 := n4_; have NB307_311 := n5_; have NB311_307 := n6_; clear n0_ n1_ n2_ n3_ n4_ n5_ n6_; clear hb hbox hg; have hnb76 := NB311_307.out; have hnc76 := NB307_311.out; have hcz77_0 := ce BK311 0; have hcz77_1 := ce BK311 1; have hcz77_2 := ce BK311 2; have hfz77_0 := fz BK311 0; have hfz77_1 := fz BK311 1; have hfz77_2 := fz BK311 2)))
           go_ret
           exact ⟨by first | rfl | (simp [errW_none, errW_some] <;> rfl) | (simp [*, errW_none, errW_some] <;> rfl), pb HB⟩
        ·rw [if_neg c13] at H
         exact absurd H (by simp)
       ·rw [if_neg c12] at H
        exact absurd H (by simp)
      ·rw [if_neg c11] at H
       have c11b0 : decide (x4_2 < (l0_2.length : Int)) = false := decide_eq_false c11
       clear c11
       obtain rfl := Option.some.inj H
       go_wp2
       repeat (go_quiet (fail); try go_wp2)
       go_ret
       exact ⟨by first | rfl | (simp [errW_none, errW_some] <;> rfl) | (simp [*, errW_none, errW_some] <;> rfl), pb HB⟩
end Go.Proofs.Ytojpmjkphgjmgaa.H
