import Derived.Test.YtmfffbafldbihaaHx0
import Derived.Test.YtmfffbafldbihaaHx10
namespace Go.Proofs.Ytmfffbafldbihaa.H
open Go.RowKit Go.Proofs.YtmfffbafldbihaaW.PrintWords Go.Proofs.YtmfffbafldbihaaW.PrintLast Go.Proofs.YtmfffbafldbihaaW.PrintMore Go.Proofs.YtmfffbafldbihaaW.Sq
attribute [local go_sem] max2_int min2_int max_two min_two max_three min_three max_four min_four
set_option linter.unusedVariables false
set_option linter.unusedSimpArgs false

def bottom_Get.l0 : Nat → ByteArray → List (S62) → Int → Int → Option (Int × Int × Bool)
 | 0, _, _, _, _ => none
 | k + 1, x1, x20, x21, x22 => if x22 < x21 then (if 0 ≤ x22 then (if x22 < (x20.length : Int) then (if ((rd_T62 x20 x22).f0).toList = x1.toList then (some ((rd_T62 x20 x22).f2.f0, (rd_T62 x20 x22).f2.f1, true)) else (bottom_Get.l0 k x1 x20 x21 (wrap64 (x22 + 1)))) else (none)) else (none)) else (some (0, 0, false))
def bottom_Get.f (k : Nat) (a0_0 : Int) (a0_1 : Int) (a0_2 : Int) (l0_3 : List (S62)) (a1 : ByteArray) : Option (Int × Int × Bool) := (bottom_Right.f k a0_0 a0_1 a0_2 l0_3).bind fun t619 => (if t619 = true then (if 0 ≤ (mn (l0_3.length : Int) a0_2) then (if (mn (l0_3.length : Int) a0_2) ≤ (l0_3.length : Int) then ((some (l0_3.take ((mn (l0_3.length : Int) a0_2) : Int).toNat : List (S62))).bind fun y620 => (bottom_Get.l0 k a1 y620 (y620.length : Int) 0)) else (none)) else (none)) else (some (0, 0, false)))
theorem bottom_Get.mono_l : ∀ k, (∀ y0 y1 y2 y3, LeO (bottom_Get.l0 k y0 y1 y2 y3) (bottom_Get.l0 (k + 1) y0 y1 y2 y3))
 | 0 => fun _ _ _ _ r h => by simp [bottom_Get.l0] at h
 | k + 1 => by
  have ih0 := bottom_Get.mono_l k
  ·intro y0 y1 y2 y3
   unfold bottom_Get.l0
   repeat' first
   | (with_reducible exact ih0 _ _ _ _)
   | (with_reducible exact bottom_Right.mono _ _ _ _ _)
   | (with_reducible exact LeO.refl _)
   | (with_reducible exact LeO.none _)
   | (with_reducible refine LeO.ite ?_ ?_)
   | (with_reducible refine LeO.bind ?_ (fun _ => ?_))
theorem bottom_Get.mono : ∀ a0 a1 a2 a3 a4 k, LeO (bottom_Get.f k a0 a1 a2 a3 a4) (bottom_Get.f (k + 1) a0 a1 a2 a3 a4) := by
 intro a0 a1 a2 a3 a4 k
 have ih0 := bottom_Get.mono_l k
 unfold bottom_Get.f
 repeat' first
   | (with_reducible exact ih0 _ _ _ _)
   | (with_reducible exact bottom_Right.mono _ _ _ _ _)
   | (with_reducible exact LeO.refl _)
   | (with_reducible exact LeO.none _)
   | (with_reducible refine LeO.ite ?_ ?_)
   | (with_reducible refine LeO.bind ?_ (fun _ => ?_))
set_option maxHeartbeats 8000000 in
set_option maxRecDepth 100000 in
theorem bottom_Get.calls (k : Nat) (a0_0 : Int) (a0_1 : Int) (a0_2 : Int) (A0_3 : Option Addr) (c0_3 : Nat) (l0_3 : List (S62)) (a1 : ByteArray) (r1 : Int) (r2 : Int) (r3 : Bool) (w : World) (hr0_3 : Kd.C k62 w A0_3 l0_3.length l0_3) (hc0_3 : l0_3.length ≤ c0_3) (h : bottom_Get.f k a0_0 a0_1 a0_2 l0_3 a1 = some (r1, r2, r3)) :
  Calls Try.prog 24 #[.agg #[.int .u64 a0_0, .int .u64 a0_1, .int .i64 a0_2, .slice A0_3 l0_3.length c0_3], .string a1] w fun e w' => e = .returned (.tuple #[.agg #[.int .u64 r1, .int .u64 r2], .bool r3]) ∧ Below w.heap.size w w' := by
 have hu27 := Try.underlying27;have hu50 := Try.underlying50;have hu62 := Try.underlying62;have HR0_3 := am hr0_3;have HC0_3 := am hc0_3;clear hr0_3 hc0_3;have HB := am (Below.refl w.heap.size w);have H : ((bottom_Right.f k a0_0 a0_1 a0_2 l0_3).bind fun t619 => (if t619 = true then (if 0 ≤ (mn (l0_3.length : Int) a0_2) then (if (mn (l0_3.length : Int) a0_2) ≤ (l0_3.length : Int) then ((some (l0_3.take ((mn (l0_3.length : Int) a0_2) : Int).toNat : List (S62))).bind fun y620 => (bottom_Get.l0 k a1 y620 (y620.length : Int) 0)) else (none)) else (none)) else (some (0, 0, false)))) = some (r1, r2, r3) := h;clear h;replace H := Option.bind_eq_some_iff.mp H;obtain ⟨t619, A30, H⟩ := H
 try dsimp only at H
 have A3 := am A30;clear A30
 by_cases c4 : t619 = true
 rotate_left
 ·replace c4 := Bool.eq_false_iff.mpr c4;subst c4
  have H1 : (some (0, 0, false)) = some (r1, r2, r3) := by rw [if_neg (show ¬ (false = true) by decide)] at H; exact H
  clear H;have H := H1;clear H1
  simp only [Option.some.injEq, Prod.mk.injEq] at H
  obtain ⟨rfl, rfl, rfl⟩ := H
  go_enter Try.func24, Try.ntmps24
  go_wp2_with (first | ((with_reducible refine gate_dst (N := 2) rfl ?_); refine be 2 #[.int .u64 a0_0, .int .u64 a0_1, .int .i64 a0_2, .slice A0_3 l0_3.length c0_3] 27 ?_; intro gb617 hg w31 hbox hb; have BK617 := am (hbox); have GW617 := am ((pg hg HB : w.heap.size ≤ gb617)); have GE617 := am ((pg hg HB : w.heap.size ≤ gb617)); replace HB := am (below_step (pb HB) hb); clear hb hbox hg) | ((with_reducible refine gate_dst (N := 4) rfl ?_); refine be 4 #[.int .u64 0, .int .u64 0] 50 ?_; intro gb618 hg w32 hbox hb; have BK618 := am (hbox); have GW618 := am ((pg hg HB : w.heap.size ≤ gb618)); have GE618 := am ((pg hg HB : w.heap.size ≤ gb618)); replace HB := am (below_step (pb HB) hb); obtain ⟨NB617_618, NB618_617, hnb33, hnc33⟩ := pm hg BK617; replace BK617 := am (blk_below (pk BK617.out) hb); clear hb hbox hg; obtain ⟨hcz34_0, hcz34_1, hcz34_2, hcz34_3, hfz34_0, hfz34_1, hfz34_2, hfz34_3⟩ := g4 BK617) | ((with_reducible refine gate_callee (f := 21) rfl ?_); refine gl (some 9) Try.func21 #[.agg #[.int .u64 a0_0, .int .u64 a0_1, .int .i64 a0_2, .slice A0_3 l0_3.length c0_3]] ?_; (with_reducible refine (bottom_Right.calls k a0_0 a0_1 a0_2 _ _ l0_3 false _ ?side1 ?side2 A3.out).mono ?_); (case side1 => repeat (first | exact (Kd.C_below HR0_3.out HB.out) | (with_reducible refine Kd.C_alloc ?_ _) | (with_reducible refine Kd.C_drewN ?_ _) | (with_reducible refine Kd.C_drew ?_))); (case side2 => exact HC0_3.out); rintro e w35 ⟨rfl, hb⟩; refine ⟨_, rfl, ?_⟩; replace BK617 := am (blk_below (pk BK617.out) hb); replace BK618 := am (blk_below (pk BK618.out) hb); replace HB := am (below_step (pb HB) hb); (try clear hb); (try clear hb2); (try clear hk); (try clear hi); obtain ⟨hcz36_0, hcz36_1, hfz36_0, hfz36_1⟩ := g2 BK618))
  refine bodyPost_ret (results_ct rfl _ _ gb618 50 #[.int .u64 0, .int .u64 0] (0, 0) _ rfl (by refine pk ?_; refine blk_put (cs := #[.int .u64 0, .int .u64 0]) ?_ 1 _ rfl; refine pk ?_; refine blk_put (cs := #[.int .u64 0, .int .u64 0]) ?_ 0 _ rfl; refine pk ?_; exact BK618.out) Try.underlying50 rfl (by kernel_rfl)) rfl ?_
  exact ⟨by first | rfl | (simp [errW_none, errW_some] <;> rfl) | (simp [*, errW_none, errW_some] <;> rfl), pb HB⟩
 subst c4
 have H1 : (if 0 ≤ (mn (l0_3.length : Int) a0_2) then (if (mn (l0_3.length : Int) a0_2) ≤ (l0_3.length : Int) then ((some (l0_3.take ((mn (l0_3.length : Int) a0_2) : Int).toNat : List (S62))).bind fun y620 => (bottom_Get.l0 k a1 y620 (y620.length : Int) 0)) else (none)) else (none)) = some (r1, r2, r3) := by rw [if_pos rfl] at H; exact H
 clear H;have H := H1;clear H1;obtain ⟨ji5, hji5⟩ : ∃ j_ : Int, (mn (l0_3.length : Int) a0_2) = j_ := ⟨_, rfl⟩
 replace H : (if 0 ≤ (ji5) then (if (ji5) ≤ (l0_3.length : Int) then ((some (l0_3.take ((ji5) : Int).toNat : List (S62))).bind fun y620 => (bottom_Get.l0 k a1 y620 (y620.length : Int) 0)) else (none)) else (none)) = some (r1, r2, r3) := by first | (rw [hji5] at H; exact H) | (simp only [hji5] at H ⊢; exact H)
 (try rw [hji5] at A3)
 have hji5_ : (if a0_2 < (l0_3.length : Int) then a0_2 else (l0_3.length : Int)) = ji5 := hji5
 by_cases c6 : 0 ≤ (ji5)
 rotate_left
 ·rw [if_neg c6] at H;exact absurd H (by simp)
 rw [if_pos c6] at H;have c6b0 := eq_true c6;have c6b1 : decide (0 ≤ (ji5)) = true := decide_eq_true c6;clear c6
 by_cases c7 : (ji5) ≤ (l0_3.length : Int)
 rotate_left
 ·rw [if_neg c7] at H;exact absurd H (by simp)
 rw [if_pos c7] at H;have c7b0 := eq_true c7;have c7b1 : decide ((ji5) ≤ (l0_3.length : Int)) = true := decide_eq_true c7;clear c7;obtain ⟨y620, hy620⟩ : ∃ y_ : List (S62), y_ = (l0_3.take ((ji5) : Int).toNat) := ⟨_, rfl⟩
 replace H : (bottom_Get.l0 k a1 y620 (y620.length : Int) 0) = some (r1, r2, r3) := by first | (rw [hy620]; with_reducible exact H) | (have H2_ := (Option.bind_some _ _).symm.trans H; rw [hy620]; with_reducible exact H2_) | (have H2_ := (Option.bind_some _ _).symm.trans H; with_reducible exact H2_) | with_reducible exact H | (rw [hy620]; exact H) | exact H
 have Ny620 := am hy620;clear hy620;have H' := am H;clear H
 go_enter Try.func24, Try.ntmps24
 go_wp2_with (first | ((with_reducible refine gate_dst (N := 2) rfl ?_); refine be 2 #[.int .u64 a0_0, .int .u64 a0_1, .int .i64 a0_2, .slice A0_3 l0_3.length c0_3] 27 ?_; intro gb617 hg w8 hbox hb; have BK617 := am (hbox); have GW617 := am ((pg hg HB : w.heap.size ≤ gb617)); have GE617 := am ((pg hg HB : w.heap.size ≤ gb617)); replace HB := am (below_step (pb HB) hb); clear hb hbox hg) | ((with_reducible refine gate_dst (N := 4) rfl ?_); refine be 4 #[.int .u64 0, .int .u64 0] 50 ?_; intro gb618 hg w9 hbox hb; have BK618 := am (hbox); have GW618 := am ((pg hg HB : w.heap.size ≤ gb618)); have GE618 := am ((pg hg HB : w.heap.size ≤ gb618)); replace HB := am (below_step (pb HB) hb); obtain ⟨NB617_618, NB618_617, hnb10, hnc10⟩ := pm hg BK617; replace BK617 := am (blk_below (pk BK617.out) hb); clear hb hbox hg; obtain ⟨hcz11_0, hcz11_1, hcz11_2, hcz11_3, hfz11_0, hfz11_1, hfz11_2, hfz11_3⟩ := g4 BK617) | ((with_reducible refine gate_callee (f := 21) rfl ?_); refine gl (some 9) Try.func21 #[.agg #[.int .u64 a0_0, .int .u64 a0_1, .int .i64 a0_2, .slice A0_3 l0_3.length c0_3]] ?_; (with_reducible refine (bottom_Right.calls k a0_0 a0_1 a0_2 _ _ l0_3 true _ ?side1 ?side2 A3.out).mono ?_); (case side1 => repeat (first | exact (Kd.C_below HR0_3.out HB.out) | (with_reducible refine Kd.C_alloc ?_ _) | (with_reducible refine Kd.C_drewN ?_ _) | (with_reducible refine Kd.C_drew ?_))); (case side2 => exact HC0_3.out); rintro e w12 ⟨rfl, hb⟩; refine ⟨_, rfl, ?_⟩; replace BK617 := am (blk_below (pk BK617.out) hb); replace BK618 := am (blk_below (pk BK618.out) hb); replace HB := am (below_step (pb HB) hb); (try clear hb); (try clear hb2); (try clear hk); (try clear hi); obtain ⟨hcz13_0, hcz13_1, hcz13_2, hcz13_3, hfz13_0, hfz13_1, hfz13_2, hfz13_3⟩ := g4 BK617; have q14 : ((ji5) : Int) ≤ ((l0_3.length : Int) : Int) := of_decide_eq_true (by first | (with_reducible assumption) | assumption); obtain ⟨i014, hi014, _, hsz14, _⟩ := info_parts info62; have hroom14 : l0_3.length ≤ c0_3 := HC0_3.out; have hC14 : Kd.C k62 _ A0_3 l0_3.length l0_3 := HR0_3.out; have hcut14 := cut_to (P := Try.prog) 25 62 .i64 Try.underlying25 hi014 A0_3 l0_3.length c0_3 (ji5) (of_decide_eq_true (by first | (with_reducible assumption) | assumption)) q14 hroom14; have hr14 := Kd.C_take (m := ((ji5) : Int).toNat) hC14 (by omega); have hy14 : y620.length = ((ji5) : Int).toNat := (by rw [Ny620.out, List.length_take]; omega); rw [← Ny620.out] at hr14; rw [← hy14] at hcut14; have HR623 := am hr14; have HC623 := am (show y620.length ≤ c0_3 from by omega); clear hr14 hC14 hroom14 hi014 hsz14; have KY14 := am hy14; clear hy14; replace q14 := eq_true q14))
 go_loopg [22] k (fun kq v22 w' => ∃ (x22_1 : Int) (x619000_1 : Int) (x619001_1 : Int), v22 = .int .i64 x22_1 ∧ Aside0 (bottom_Get.l0 kq a1 y620 (y620.length : Int) x22_1 = some (r1, r2, r3)) ∧ Aside0 (kq ≤ k) ∧ Aside0 (w'.heap[gb617]? = some (.cells #[.int .u64 a0_0, .int .u64 a0_1, .int .i64 a0_2, (.slice A0_3 l0_3.length c0_3)] 27 (0, 0))) ∧ Aside0 (w'.heap[gb618]? = some (.cells #[.int .u64 x619000_1, .int .u64 x619001_1] 50 (0, 0))) ∧ Aside0 (Below w.heap.size w w'))
 case atStart => exact ⟨(0), (0), (0), (by first | rfl | (simp; done) | (simp [*]; done)), H', ⟨Nat.le_refl _⟩, ⟨pk BK617.out⟩, ⟨pk BK618.out⟩, ⟨pb HB⟩⟩
 case round =>
  clear H';(try clear c1);(try clear q1);(try clear c2);(try clear p2);(try clear c4);(try clear c6);(try clear c6b0);(try clear c6b1);(try clear c7);(try clear c7b0);(try clear c7b1);(try clear c10);(try clear q14);(try clear hcz11_0 hcz11_1 hcz11_2 hcz11_3);(try clear hcz13_0 hcz13_1 hcz13_2 hcz13_3);(try clear hfz11_0 hfz11_1 hfz11_2 hfz11_3);(try clear hfz13_0 hfz13_1 hfz13_2 hfz13_3);(try clear q14);obtain ⟨x22_1, x619000_1, x619001_1, rfl, HA, HK1, BK617, BK618, HB⟩ := hrel
  cases gk with
  | zero => exact absurd HA.out (by simp [bottom_Get.l0])
  | succ k1 =>
   have H := HA.out;clear HA
   simp only [bottom_Get.l0] at H
   by_cases c15 : x22_1 < (y620.length : Int)
   ·rw [if_pos c15] at H;have c15b0 : decide (x22_1 < (y620.length : Int)) = true := decide_eq_true c15;clear c15
    by_cases c16 : 0 ≤ x22_1
    ·rw [if_pos c16] at H;have c16b0 : decide (0 ≤ x22_1) = true := decide_eq_true c16;clear c16
     by_cases c17 : x22_1 < (y620.length : Int)
     ·rw [if_pos c17] at H;have c17b0 : decide (x22_1 < (y620.length : Int)) = true := decide_eq_true c17;clear c17
      by_cases c18 : ((rd_T62 y620 x22_1).f0).toList = a1.toList
      ·rw [if_pos c18] at H;have c18b0 : (((rd_T62 y620 x22_1).f0).toList == a1.toList) = true := beq_iff_eq.mpr c18;have c18b1 : (((rd_T62 y620 x22_1).f0).toList != a1.toList) = false := bne_eq_false_iff_eq.mpr c18;clear c18
       simp only [Option.some.injEq, Prod.mk.injEq] at H
       obtain ⟨rfl, rfl, rfl⟩ := H;have p624 : 0 ≤ (x22_1 : Int) := of_decide_eq_true (by first | (with_reducible assumption) | assumption);have q624 : x22_1 < (y620.length : Int) := of_decide_eq_true (by first | (with_reducible assumption) | assumption);obtain ⟨ad624, e624, hx624_0, hx624_1, hx624_2, hx624_3⟩ := at_T62 HR623.out x22_1 p624 q624;cases e624;replace hx624_0 := (HB.out.cell (World.block_lt_of_cell? w _ hx624_0)).trans hx624_0;replace hx624_1 := (HB.out.cell (World.block_lt_of_cell? w _ hx624_1)).trans hx624_1;replace hx624_2 := (HB.out.cell (World.block_lt_of_cell? w _ hx624_2)).trans hx624_2;replace hx624_3 := (HB.out.cell (World.block_lt_of_cell? w _ hx624_3)).trans hx624_3;replace p624 := eq_true p624;replace q624 := eq_true q624
       go_wp2_with (first | ((with_reducible refine gate_dst (N := 7) rfl ?_); refine be 7 #[.string (⟨#[]⟩ : ByteArray), .int .u64 0, .int .u64 0, .int .u64 0] 62 ?_; intro gb625 hg w19 hbox hb; have BK625 := am (hbox); have GW625 := am ((pg hg HB : w.heap.size ≤ gb625)); have GE625 := am ((pg hg HB : w.heap.size ≤ gb625)); replace HB := am (below_step (pb HB) hb); obtain ⟨NB617_625, NB625_617, hnc20, hnb20⟩ := pm hg BK617; replace BK617 := am (blk_below (pk BK617.out) hb); obtain ⟨NB618_625, NB625_618, hnc21, hnb21⟩ := pm hg BK618; replace BK618 := am (blk_below (pk BK618.out) hb); clear hb hbox hg; obtain ⟨hcz22_0, hcz22_1, hcz22_2, hcz22_3, hfz22_0, hfz22_1, hfz22_2, hfz22_3⟩ := g4 BK625; have hnb23 := NB618_617.out; have hnc23 := NB617_618.out; obtain ⟨hcz24_0, hcz24_1, hfz24_0, hfz24_1⟩ := g2 BK618))
       refine bodyPost_ret (results_ct rfl _ _ gb618 50 #[.int .u64 ((rd_T62 y620 x22_1).f2.f0), .int .u64 ((rd_T62 y620 x22_1).f2.f1)] (0, 0) _ rfl (by refine pk ?_; refine blk_put (cs := #[.int .u64 ((rd_T62 y620 x22_1).f2.f0), .int .u64 x619001_1]) ?_ 1 _ rfl; refine pk ?_; refine blk_put (cs := #[.int .u64 x619000_1, .int .u64 x619001_1]) ?_ 0 _ rfl; refine pk ?_; refine blk_far ?_ NB618_625.out _; refine pk ?_; refine blk_far ?_ NB618_625.out _; refine pk ?_; refine blk_far ?_ NB618_625.out _; refine pk ?_; refine blk_far ?_ NB618_625.out _; refine pk ?_; exact BK618.out) Try.underlying50 rfl (by kernel_rfl)) rfl ?_
       exact ⟨by first | rfl | (simp [errW_none, errW_some] <;> rfl) | (simp only [← hji5]; first | rfl | (simp [errW_none, errW_some] <;> rfl)) | (simp [*, errW_none, errW_some] <;> rfl), pb HB⟩
      ·rw [if_neg c18] at H;have c18b0 : (((rd_T62 y620 x22_1).f0).toList == a1.toList) = false := beq_eq_false_iff_ne.mpr c18;have c18b1 : (((rd_T62 y620 x22_1).f0).toList != a1.toList) = true := bne_iff_ne.mpr c18;have H' := am H;clear H;have p624 : 0 ≤ (x22_1 : Int) := of_decide_eq_true (by first | (with_reducible assumption) | assumption);have q624 : x22_1 < (y620.length : Int) := of_decide_eq_true (by first | (with_reducible assumption) | assumption);obtain ⟨ad624, e624, hx624_0, hx624_1, hx624_2, hx624_3⟩ := at_T62 HR623.out x22_1 p624 q624;cases e624;replace hx624_0 := (HB.out.cell (World.block_lt_of_cell? w _ hx624_0)).trans hx624_0;replace hx624_1 := (HB.out.cell (World.block_lt_of_cell? w _ hx624_1)).trans hx624_1;replace hx624_2 := (HB.out.cell (World.block_lt_of_cell? w _ hx624_2)).trans hx624_2;replace hx624_3 := (HB.out.cell (World.block_lt_of_cell? w _ hx624_3)).trans hx624_3;replace p624 := eq_true p624;replace q624 := eq_true q624
       go_wp2_with (first | ((with_reducible refine gate_dst (N := 7) rfl ?_); refine be 7 #[.string (⟨#[]⟩ : ByteArray), .int .u64 0, .int .u64 0, .int .u64 0] 62 ?_; intro gb625 hg w25 hbox hb; have BK625 := am (hbox); have GW625 := am ((pg hg HB : w.heap.size ≤ gb625)); have GE625 := am ((pg hg HB : w.heap.size ≤ gb625)); replace HB := am (below_step (pb HB) hb); obtain ⟨NB617_625, NB625_617, hnc26, hnb26⟩ := pm hg BK617; replace BK617 := am (blk_below (pk BK617.out) hb); obtain ⟨NB618_625, NB625_618, hnc27, hnb27⟩ := pm hg BK618; replace BK618 := am (blk_below (pk BK618.out) hb); clear hb hbox hg; obtain ⟨hcz28_0, hcz28_1, hcz28_2, hcz28_3, hfz28_0, hfz28_1, hfz28_2, hfz28_3⟩ := g4 BK625))
       go_roundg k1
       case measure => have := HK1.out; omega
       case rel => exact ⟨(wrap64 (x22_1 + 1)), (x619000_1), (x619001_1), (by first | rfl | (simp; done) | (simp [*]; done)), H', ⟨by have := HK1.out; omega⟩, ⟨by refine pk ?_; refine blk_far ?_ NB617_625.out _; refine pk ?_; refine blk_far ?_ NB617_625.out _; refine pk ?_; refine blk_far ?_ NB617_625.out _; refine pk ?_; refine blk_far ?_ NB617_625.out _; refine pk ?_; exact BK617.out⟩, ⟨by refine pk ?_; refine blk_far ?_ NB618_625.out _; refine pk ?_; refine blk_far ?_ NB618_625.out _; refine pk ?_; refine blk_far ?_ NB618_625.out _; refine pk ?_; refine blk_far ?_ NB618_625.out _; refine pk ?_; exact BK618.out⟩, ⟨pb HB⟩⟩
     ·rw [if_neg c17] at H;exact absurd H (by simp)
    ·rw [if_neg c16] at H;exact absurd H (by simp)
   ·rw [if_neg c15] at H;have c15b0 : decide (x22_1 < (y620.length : Int)) = false := decide_eq_false c15;clear c15
    simp only [Option.some.injEq, Prod.mk.injEq] at H
    obtain ⟨rfl, rfl, rfl⟩ := H;have hnb29 := NB618_617.out;have hnc29 := NB617_618.out;obtain ⟨hcz30_0, hcz30_1, hfz30_0, hfz30_1⟩ := g2 BK618
    go_wp2
    refine bodyPost_ret (results_ct rfl _ _ gb618 50 #[.int .u64 0, .int .u64 0] (0, 0) _ rfl (by refine pk ?_; refine blk_put (cs := #[.int .u64 0, .int .u64 x619001_1]) ?_ 1 _ rfl; refine pk ?_; refine blk_put (cs := #[.int .u64 x619000_1, .int .u64 x619001_1]) ?_ 0 _ rfl; refine pk ?_; exact BK618.out) Try.underlying50 rfl (by kernel_rfl)) rfl ?_
    exact ⟨by first | rfl | (simp [errW_none, errW_some] <;> rfl) | (simp only [← hji5]; first | rfl | (simp [errW_none, errW_some] <;> rfl)) | (simp [*, errW_none, errW_some] <;> rfl), pb HB⟩
end Go.Proofs.Ytmfffbafldbihaa.H
