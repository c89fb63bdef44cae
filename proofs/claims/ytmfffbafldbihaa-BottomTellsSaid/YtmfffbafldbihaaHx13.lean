import Derived.Test.YtmfffbafldbihaaHx0
import Derived.Test.YtmfffbafldbihaaHx4
import Derived.Test.YtmfffbafldbihaaHx6
import Derived.Test.YtmfffbafldbihaaHx9
import Derived.Test.YtmfffbafldbihaaHx10
import Derived.Test.YtmfffbafldbihaaHx12
namespace Go.Proofs.Ytmfffbafldbihaa.H
open Go.RowKit Go.Proofs.YtmfffbafldbihaaW.PrintWords Go.Proofs.YtmfffbafldbihaaW.PrintLast Go.Proofs.YtmfffbafldbihaaW.PrintMore Go.Proofs.YtmfffbafldbihaaW.Sq
attribute [local go_sem] max2_int min2_int max_two min_two max_three min_three max_four min_four
set_option linter.unusedVariables false
set_option linter.unusedSimpArgs false

def bottom_Add.f (k : Nat) (a0_0 : Int) (a0_1 : Int) (a0_2 : Int) (l0_3 : List (S62)) (a1 : ByteArray) (a2 : Int) : Option (Int × Int × Int × (List (S62)) × Int) := (bottom_Right.f k a0_0 a0_1 a0_2 l0_3).bind fun t208 => (if t208 = true then (if (a1.size : Int) > 64 then (some (a0_0, a0_1, a0_2, l0_3, 5)) else (if a2 = 0 then (some (a0_0, a0_1, a0_2, l0_3, 7)) else ((sip_Sum.f k a0_0 a0_1 a1).bind fun t209 => ((wide_Of.f a2).bind fun bt210 => ((bottom_add.f k a0_0 a0_1 a0_2 l0_3 a1 t209 bt210.1 bt210.2).bind fun bt212 => (some (bt212.1, bt212.2.1, bt212.2.2.1, bt212.2.2.2.1, bt212.2.2.2.2))))))) else (some (a0_0, a0_1, a0_2, l0_3, 1)))
theorem bottom_Add.mono : ∀ a0 a1 a2 a3 a4 a5 k, LeO (bottom_Add.f k a0 a1 a2 a3 a4 a5) (bottom_Add.f (k + 1) a0 a1 a2 a3 a4 a5) := by
 intro a0 a1 a2 a3 a4 a5 k
 unfold bottom_Add.f
 repeat' first
   | (with_reducible exact bottom_Right.mono _ _ _ _ _)
   | (with_reducible exact bottom_add.mono _ _ _ _ _ _ _ _ _)
   | (with_reducible exact sip_Sum.mono _ _ _ _)
   | (with_reducible exact LeO.refl _)
   | (with_reducible exact LeO.none _)
   | (with_reducible refine LeO.ite ?_ ?_)
   | (with_reducible refine LeO.bind ?_ (fun _ => ?_))
def bottom_Add.T7 : Bool × List (List Nat × List Nat) := (true, [([], []), ([], []), ([], []), ([2], [2]), ([], []), ([3, 4], [3, 4]), ([], []), ([6, 5], [6]), ([1, 5, 7], [1, 5, 7]), ([0, 8, 7], [0, 8]), ([9], [9]), ([9], [9]), ([10, 9, 0, 1, 2, 3, 4, 5, 6, 7, 8, 9, 10, 11], [10]), ([11, 12, 0, 1, 2, 3, 4, 5, 6, 7, 8, 9, 10, 11, 12], [11])])
def bottom_Add.B7 : List Nat := [0, 0, 0, 4, 0, 28, 0, 124, 254, 511, 1023, 1023, 4095, 8191]
theorem bottom_Add.tab7 : rtab .any (opsOf Try.f17 7) = bottom_Add.T7 := by kernel_rfl
theorem bottom_Add.bits7 : waitsOk bottom_Add.T7.2 bottom_Add.B7 = true := by kernel_rfl
set_option maxHeartbeats 8000000 in
set_option maxRecDepth 100000 in
theorem bottom_Add.calls (k : Nat) (a0_0 : Int) (a0_1 : Int) (a0_2 : Int) (P0_3_ : Nat → Prop) (A0_3 : Option Addr) (c0_3 : Nat) (l0_3 : List (S62)) (a1 : ByteArray) (a2 : Int) (r1 : Int) (r2 : Int) (r3 : Int) (r4 : List (S62)) (r5 : Int) (w : World) (hs0_3 : Kd.V k62 62 w w.heap.size (fun k_ => P0_3_ k_) (.slice A0_3 l0_3.length c0_3) l0_3) (h : bottom_Add.f k a0_0 a0_1 a0_2 l0_3 a1 a2 = some (r1, r2, r3, r4, r5)) :
  Calls Try.prog 17 #[.agg #[.int .u64 a0_0, .int .u64 a0_1, .int .i64 a0_2, .slice A0_3 l0_3.length c0_3], .string a1, .int .u64 a2] w fun e w' => ∃ v3_ : Value, e = .returned (.tuple #[.agg #[.int .u64 r1, .int .u64 r2, .int .i64 r3, v3_], .int .i64 r5]) ∧ Kd.V k62 62 w' w.heap.size (fun k_ => (P0_3_ k_ ∨ w.heap.size ≤ k_)) v3_ r4 ∧ Below w.heap.size w w' := by
 have hu27 := Try.underlying27;have hu24 := Try.underlying24;have hu62 := Try.underlying62;have HO0_3 := am (show Kd.V k62 62 w w.heap.size (fun k_ => (P0_3_ k_ ∨ w.heap.size ≤ k_)) (.slice A0_3 l0_3.length c0_3) l0_3 from Kd.V_mono hs0_3 (fun k_ hk => .inl hk));have HB := am (Below.refl w.heap.size w);have H : ((bottom_Right.f k a0_0 a0_1 a0_2 l0_3).bind fun t208 => (if t208 = true then (if (a1.size : Int) > 64 then (some (a0_0, a0_1, a0_2, l0_3, 5)) else (if a2 = 0 then (some (a0_0, a0_1, a0_2, l0_3, 7)) else ((sip_Sum.f k a0_0 a0_1 a1).bind fun t209 => ((wide_Of.f a2).bind fun bt210 => ((bottom_add.f k a0_0 a0_1 a0_2 l0_3 a1 t209 bt210.1 bt210.2).bind fun bt212 => (some (bt212.1, bt212.2.1, bt212.2.2.1, bt212.2.2.2.1, bt212.2.2.2.2))))))) else (some (a0_0, a0_1, a0_2, l0_3, 1)))) = some (r1, r2, r3, r4, r5) := h;clear h;replace H := Option.bind_eq_some_iff.mp H;obtain ⟨t208, A40, H⟩ := H
 try dsimp only at H
 have A4 := am A40;clear A40
 by_cases c5 : t208 = true
 rotate_left
 ·replace c5 := Bool.eq_false_iff.mpr c5;subst c5
  have H1 : (some (a0_0, a0_1, a0_2, l0_3, 1)) = some (r1, r2, r3, r4, r5) := by rw [if_neg (show ¬ (false = true) by decide)] at H; exact H
  clear H;have H := H1;clear H1
  simp only [Option.some.injEq, Prod.mk.injEq] at H
  obtain ⟨rfl, rfl, rfl, rfl, rfl⟩ := H
  go_enter Try.func17, Try.ntmps17
  go_wp2_with (first | ((with_reducible refine gate_dst (N := 3) rfl ?_); refine be 3 #[.int .u64 a0_0, .int .u64 a0_1, .int .i64 a0_2, .slice A0_3 l0_3.length c0_3] 27 ?_; intro gb206 hg w39 hbox hb; replace HO0_3 := am (Kd.V_below (Kd.V_elderB (pv HO0_3.out) gb206 (Nat.le_of_eq hg.symm)) hb); have BK206 := am (hbox); have GW206 := am ((pg hg HB : w.heap.size ≤ gb206)); have GE206 := am ((pg hg HB : w.heap.size ≤ gb206)); replace HB := am (below_step (pb HB) hb); clear hb hbox hg) | ((with_reducible refine gate_dst (N := 6) rfl ?_); refine be 6 #[.int .u64 0, .int .u64 0, .int .i64 0, .slice none 0 0] 27 ?_; intro gb207 hg w40 hbox hb; replace HO0_3 := am (Kd.V_below (Kd.V_elderB (pv HO0_3.out) gb207 (Nat.le_of_eq hg.symm)) hb); have BK207 := am (hbox); have GW207 := am ((pg hg HB : w.heap.size ≤ gb207)); have GE207 := am ((pg hg HB : w.heap.size ≤ gb207)); replace HB := am (below_step (pb HB) hb); obtain ⟨NB206_207, NB207_206, hnb41, hnc41⟩ := pm hg BK206; replace BK206 := am (blk_below (pk BK206.out) hb); clear hb hbox hg; obtain ⟨hcz42_0, hcz42_1, hcz42_2, hcz42_3, hfz42_0, hfz42_1, hfz42_2, hfz42_3⟩ := g4 BK206) | ((with_reducible refine gate_callee (f := 21) rfl ?_); refine gl (some 10) Try.func21 #[.agg #[.int .u64 a0_0, .int .u64 a0_1, .int .i64 a0_2, .slice A0_3 l0_3.length c0_3]] ?_; (with_reducible refine (bottom_Right.calls k a0_0 a0_1 a0_2 _ _ l0_3 false _ ?side1 ?side2 A4.out).mono ?_); (case side1 => repeat (first | exact (Kd.V_reads' HO0_3.out).2.2 | (with_reducible refine Kd.C_alloc ?_ _) | (with_reducible refine Kd.C_drewN ?_ _) | (with_reducible refine Kd.C_drew ?_))); (case side2 => exact (Kd.V_reads' HO0_3.out).2.1); rintro e w43 ⟨rfl, hb⟩; refine ⟨_, rfl, ?_⟩; replace HO0_3 := am (Kd.V_below (pv HO0_3.out) hb); replace BK206 := am (blk_below (pk BK206.out) hb); replace BK207 := am (blk_below (pk BK207.out) hb); replace HB := am (below_step (pb HB) hb); (try clear hb); (try clear hb2); (try clear hk); (try clear hi); obtain ⟨hcz44_0, hcz44_1, hcz44_2, hcz44_3, hfz44_0, hfz44_1, hfz44_2, hfz44_3⟩ := g4 BK206; obtain ⟨hcz45_0, hcz45_1, hcz45_2, hcz45_3, hfz45_0, hfz45_1, hfz45_2, hfz45_3⟩ := g4 BK207))
  refine bodyPost_ret (results_ct rfl _ _ gb207 27 #[.int .u64 a0_0, .int .u64 a0_1, .int .i64 a0_2, .slice A0_3 l0_3.length c0_3] (0, 0) _ rfl (by refine pk ?_; refine blk_put (cs := #[.int .u64 a0_0, .int .u64 a0_1, .int .i64 a0_2, .slice none 0 0]) ?_ 3 _ rfl; refine pk ?_; refine blk_put (cs := #[.int .u64 a0_0, .int .u64 a0_1, .int .i64 0, .slice none 0 0]) ?_ 2 _ rfl; refine pk ?_; refine blk_put (cs := #[.int .u64 a0_0, .int .u64 0, .int .i64 0, .slice none 0 0]) ?_ 1 _ rfl; refine pk ?_; refine blk_put (cs := #[.int .u64 0, .int .u64 0, .int .i64 0, .slice none 0 0]) ?_ 0 _ rfl; refine pk ?_; exact BK207.out) Try.underlying27 rfl (by kernel_rfl)) rfl ?_
  exact ⟨_, by first | rfl | (simp [errW_none, errW_some] <;> rfl) | (simp [*, errW_none, errW_some] <;> rfl), by refine pv ?_; exact Kd.V_mono (Kd.V_far (p := ⟨gb207, 3, none⟩) (Kd.V_far (p := ⟨gb207, 2, none⟩) (Kd.V_far (p := ⟨gb207, 1, none⟩) (Kd.V_far (p := ⟨gb207, 0, none⟩) (Kd.V_mono HO0_3.out (fun k_ hk => (⟨hk, hk.2⟩ : _ ∧ k_ ≠ gb207))) (fun _ hk => hk.2) (.int .u64 a0_0)) (fun _ hk => hk.2) (.int .u64 a0_1)) (fun _ hk => hk.2) (.int .i64 a0_2)) (fun _ hk => hk.2) (.slice A0_3 l0_3.length c0_3)) (fun _ hk => hk.1.1.1), pb HB⟩
 subst c5
 have H1 : (if (a1.size : Int) > 64 then (some (a0_0, a0_1, a0_2, l0_3, 5)) else (if a2 = 0 then (some (a0_0, a0_1, a0_2, l0_3, 7)) else ((sip_Sum.f k a0_0 a0_1 a1).bind fun t209 => ((wide_Of.f a2).bind fun bt210 => ((bottom_add.f k a0_0 a0_1 a0_2 l0_3 a1 t209 bt210.1 bt210.2).bind fun bt212 => (some (bt212.1, bt212.2.1, bt212.2.2.1, bt212.2.2.2.1, bt212.2.2.2.2))))))) = some (r1, r2, r3, r4, r5) := by rw [if_pos rfl] at H; exact H
 clear H;have H := H1;clear H1
 by_cases c6 : (a1.size : Int) > 64
 ·rw [if_pos c6] at H;have c6b0 : decide (64 < (a1.size : Int)) = true := decide_eq_true c6;have c6b1 : decide (64 < a1.size) = true := decide_eq_true (by omega);clear c6
  simp only [Option.some.injEq, Prod.mk.injEq] at H
  obtain ⟨rfl, rfl, rfl, rfl, rfl⟩ := H
  go_enter Try.func17, Try.ntmps17
  go_wp2_with (first | ((with_reducible refine gate_dst (N := 3) rfl ?_); refine be 3 #[.int .u64 a0_0, .int .u64 a0_1, .int .i64 a0_2, .slice A0_3 l0_3.length c0_3] 27 ?_; intro gb206 hg w7 hbox hb; replace HO0_3 := am (Kd.V_below (Kd.V_elderB (pv HO0_3.out) gb206 (Nat.le_of_eq hg.symm)) hb); have BK206 := am (hbox); have GW206 := am ((pg hg HB : w.heap.size ≤ gb206)); have GE206 := am ((pg hg HB : w.heap.size ≤ gb206)); replace HB := am (below_step (pb HB) hb); clear hb hbox hg) | ((with_reducible refine gate_dst (N := 6) rfl ?_); refine be 6 #[.int .u64 0, .int .u64 0, .int .i64 0, .slice none 0 0] 27 ?_; intro gb207 hg w8 hbox hb; replace HO0_3 := am (Kd.V_below (Kd.V_elderB (pv HO0_3.out) gb207 (Nat.le_of_eq hg.symm)) hb); have BK207 := am (hbox); have GW207 := am ((pg hg HB : w.heap.size ≤ gb207)); have GE207 := am ((pg hg HB : w.heap.size ≤ gb207)); replace HB := am (below_step (pb HB) hb); obtain ⟨NB206_207, NB207_206, hnb9, hnc9⟩ := pm hg BK206; replace BK206 := am (blk_below (pk BK206.out) hb); clear hb hbox hg; obtain ⟨hcz10_0, hcz10_1, hcz10_2, hcz10_3, hfz10_0, hfz10_1, hfz10_2, hfz10_3⟩ := g4 BK206) | ((with_reducible refine gate_callee (f := 21) rfl ?_); refine gl (some 10) Try.func21 #[.agg #[.int .u64 a0_0, .int .u64 a0_1, .int .i64 a0_2, .slice A0_3 l0_3.length c0_3]] ?_; (with_reducible refine (bottom_Right.calls k a0_0 a0_1 a0_2 _ _ l0_3 true _ ?side1 ?side2 A4.out).mono ?_); (case side1 => repeat (first | exact (Kd.V_reads' HO0_3.out).2.2 | (with_reducible refine Kd.C_alloc ?_ _) | (with_reducible refine Kd.C_drewN ?_ _) | (with_reducible refine Kd.C_drew ?_))); (case side2 => exact (Kd.V_reads' HO0_3.out).2.1); rintro e w11 ⟨rfl, hb⟩; refine ⟨_, rfl, ?_⟩; replace HO0_3 := am (Kd.V_below (pv HO0_3.out) hb); replace BK206 := am (blk_below (pk BK206.out) hb); replace BK207 := am (blk_below (pk BK207.out) hb); replace HB := am (below_step (pb HB) hb); (try clear hb); (try clear hb2); (try clear hk); (try clear hi); obtain ⟨hcz12_0, hcz12_1, hcz12_2, hcz12_3, hfz12_0, hfz12_1, hfz12_2, hfz12_3⟩ := g4 BK206; obtain ⟨hcz13_0, hcz13_1, hcz13_2, hcz13_3, hfz13_0, hfz13_1, hfz13_2, hfz13_3⟩ := g4 BK207))
  refine bodyPost_ret (results_ct rfl _ _ gb207 27 #[.int .u64 a0_0, .int .u64 a0_1, .int .i64 a0_2, .slice A0_3 l0_3.length c0_3] (0, 0) _ rfl (by refine pk ?_; refine blk_put (cs := #[.int .u64 a0_0, .int .u64 a0_1, .int .i64 a0_2, .slice none 0 0]) ?_ 3 _ rfl; refine pk ?_; refine blk_put (cs := #[.int .u64 a0_0, .int .u64 a0_1, .int .i64 0, .slice none 0 0]) ?_ 2 _ rfl; refine pk ?_; refine blk_put (cs := #[.int .u64 a0_0, .int .u64 0, .int .i64 0, .slice none 0 0]) ?_ 1 _ rfl; refine pk ?_; refine blk_put (cs := #[.int .u64 0, .int .u64 0, .int .i64 0, .slice none 0 0]) ?_ 0 _ rfl; refine pk ?_; exact BK207.out) Try.underlying27 rfl (by kernel_rfl)) rfl ?_
  exact ⟨_, by first | rfl | (simp [errW_none, errW_some] <;> rfl) | (simp [*, errW_none, errW_some] <;> rfl), by refine pv ?_; exact Kd.V_mono (Kd.V_far (p := ⟨gb207, 3, none⟩) (Kd.V_far (p := ⟨gb207, 2, none⟩) (Kd.V_far (p := ⟨gb207, 1, none⟩) (Kd.V_far (p := ⟨gb207, 0, none⟩) (Kd.V_mono HO0_3.out (fun k_ hk => (⟨hk, hk.2⟩ : _ ∧ k_ ≠ gb207))) (fun _ hk => hk.2) (.int .u64 a0_0)) (fun _ hk => hk.2) (.int .u64 a0_1)) (fun _ hk => hk.2) (.int .i64 a0_2)) (fun _ hk => hk.2) (.slice A0_3 l0_3.length c0_3)) (fun _ hk => hk.1.1.1), pb HB⟩
 rw [if_neg c6] at H;have c6b0 : decide (64 < (a1.size : Int)) = false := decide_eq_false c6;have c6b1 : decide (64 < a1.size) = false := decide_eq_false (by omega);clear c6
 by_cases c14 : a2 = 0
 ·rw [if_pos c14] at H;have c14b0 : (a2 == 0) = true := beq_iff_eq.mpr c14;have c14b1 : (a2 != 0) = false := bne_eq_false_iff_eq.mpr c14;clear c14
  simp only [Option.some.injEq, Prod.mk.injEq] at H
  obtain ⟨rfl, rfl, rfl, rfl, rfl⟩ := H
  go_enter Try.func17, Try.ntmps17
  go_wp2_with (first | ((with_reducible refine gate_dst (N := 3) rfl ?_); refine be 3 #[.int .u64 a0_0, .int .u64 a0_1, .int .i64 a0_2, .slice A0_3 l0_3.length c0_3] 27 ?_; intro gb206 hg w15 hbox hb; replace HO0_3 := am (Kd.V_below (Kd.V_elderB (pv HO0_3.out) gb206 (Nat.le_of_eq hg.symm)) hb); have BK206 := am (hbox); have GW206 := am ((pg hg HB : w.heap.size ≤ gb206)); have GE206 := am ((pg hg HB : w.heap.size ≤ gb206)); replace HB := am (below_step (pb HB) hb); clear hb hbox hg) | ((with_reducible refine gate_dst (N := 6) rfl ?_); refine be 6 #[.int .u64 0, .int .u64 0, .int .i64 0, .slice none 0 0] 27 ?_; intro gb207 hg w16 hbox hb; replace HO0_3 := am (Kd.V_below (Kd.V_elderB (pv HO0_3.out) gb207 (Nat.le_of_eq hg.symm)) hb); have BK207 := am (hbox); have GW207 := am ((pg hg HB : w.heap.size ≤ gb207)); have GE207 := am ((pg hg HB : w.heap.size ≤ gb207)); replace HB := am (below_step (pb HB) hb); obtain ⟨NB206_207, NB207_206, hnb17, hnc17⟩ := pm hg BK206; replace BK206 := am (blk_below (pk BK206.out) hb); clear hb hbox hg; obtain ⟨hcz18_0, hcz18_1, hcz18_2, hcz18_3, hfz18_0, hfz18_1, hfz18_2, hfz18_3⟩ := g4 BK206) | ((with_reducible refine gate_callee (f := 21) rfl ?_); refine gl (some 10) Try.func21 #[.agg #[.int .u64 a0_0, .int .u64 a0_1, .int .i64 a0_2, .slice A0_3 l0_3.length c0_3]] ?_; (with_reducible refine (bottom_Right.calls k a0_0 a0_1 a0_2 _ _ l0_3 true _ ?side1 ?side2 A4.out).mono ?_); (case side1 => repeat (first | exact (Kd.V_reads' HO0_3.out).2.2 | (with_reducible refine Kd.C_alloc ?_ _) | (with_reducible refine Kd.C_drewN ?_ _) | (with_reducible refine Kd.C_drew ?_))); (case side2 => exact (Kd.V_reads' HO0_3.out).2.1); rintro e w19 ⟨rfl, hb⟩; refine ⟨_, rfl, ?_⟩; replace HO0_3 := am (Kd.V_below (pv HO0_3.out) hb); replace BK206 := am (blk_below (pk BK206.out) hb); replace BK207 := am (blk_below (pk BK207.out) hb); replace HB := am (below_step (pb HB) hb); (try clear hb); (try clear hb2); (try clear hk); (try clear hi); obtain ⟨hcz20_0, hcz20_1, hcz20_2, hcz20_3, hfz20_0, hfz20_1, hfz20_2, hfz20_3⟩ := g4 BK206; obtain ⟨hcz21_0, hcz21_1, hcz21_2, hcz21_3, hfz21_0, hfz21_1, hfz21_2, hfz21_3⟩ := g4 BK207))
  refine bodyPost_ret (results_ct rfl _ _ gb207 27 #[.int .u64 a0_0, .int .u64 a0_1, .int .i64 a0_2, .slice A0_3 l0_3.length c0_3] (0, 0) _ rfl (by refine pk ?_; refine blk_put (cs := #[.int .u64 a0_0, .int .u64 a0_1, .int .i64 a0_2, .slice none 0 0]) ?_ 3 _ rfl; refine pk ?_; refine blk_put (cs := #[.int .u64 a0_0, .int .u64 a0_1, .int .i64 0, .slice none 0 0]) ?_ 2 _ rfl; refine pk ?_; refine blk_put (cs := #[.int .u64 a0_0, .int .u64 0, .int .i64 0, .slice none 0 0]) ?_ 1 _ rfl; refine pk ?_; refine blk_put (cs := #[.int .u64 0, .int .u64 0, .int .i64 0, .slice none 0 0]) ?_ 0 _ rfl; refine pk ?_; exact BK207.out) Try.underlying27 rfl (by kernel_rfl)) rfl ?_
  exact ⟨_, by first | rfl | (simp [errW_none, errW_some] <;> rfl) | (simp [*, errW_none, errW_some] <;> rfl), by refine pv ?_; exact Kd.V_mono (Kd.V_far (p := ⟨gb207, 3, none⟩) (Kd.V_far (p := ⟨gb207, 2, none⟩) (Kd.V_far (p := ⟨gb207, 1, none⟩) (Kd.V_far (p := ⟨gb207, 0, none⟩) (Kd.V_mono HO0_3.out (fun k_ hk => (⟨hk, hk.2⟩ : _ ∧ k_ ≠ gb207))) (fun _ hk => hk.2) (.int .u64 a0_0)) (fun _ hk => hk.2) (.int .u64 a0_1)) (fun _ hk => hk.2) (.int .i64 a0_2)) (fun _ hk => hk.2) (.slice A0_3 l0_3.length c0_3)) (fun _ hk => hk.1.1.1), pb HB⟩
 rw [if_neg c14] at H;have c14b0 : (a2 == 0) = false := beq_eq_false_iff_ne.mpr c14;have c14b1 : (a2 != 0) = true := bne_iff_ne.mpr c14;replace H := Option.bind_eq_some_iff.mp H;obtain ⟨t209, A220, H⟩ := H
 try dsimp only at H
 have A22 := am A220;clear A220;replace H := Option.bind_eq_some_iff.mp H;obtain ⟨⟨t210, t211⟩, A230, H⟩ := H
 try dsimp only at H
 have A23 := am A230;clear A230;replace H := Option.bind_eq_some_iff.mp H;obtain ⟨⟨t212, t213, t214, t215, t218⟩, A240, H⟩ := H
 try dsimp only at H
 have A24 := am A240;clear A240
 simp only [Option.some.injEq, Prod.mk.injEq] at H
 obtain ⟨rfl, rfl, rfl, rfl, rfl⟩ := H
 go_enter Try.func17, Try.ntmps17
 try go_wp2_with (first | ((with_reducible refine gate_dst (N := 3) rfl ?_); refine be 3 #[.int .u64 a0_0, .int .u64 a0_1, .int .i64 a0_2, .slice A0_3 l0_3.length c0_3] 27 ?_; intro gb206 hg w25 hbox hb; replace HO0_3 := am (Kd.V_below (Kd.V_elderB (pv HO0_3.out) gb206 (Nat.le_of_eq hg.symm)) hb); have BK206 := am (hbox); have GW206 := am ((pg hg HB : w.heap.size ≤ gb206)); have GE206 := am ((pg hg HB : w.heap.size ≤ gb206)); replace HB := am (below_step (pb HB) hb); clear hb hbox hg) | ((with_reducible refine gate_dst (N := 6) rfl ?_); refine be 6 #[.int .u64 0, .int .u64 0, .int .i64 0, .slice none 0 0] 27 ?_; intro gb207 hg w26 hbox hb; replace HO0_3 := am (Kd.V_below (Kd.V_elderB (pv HO0_3.out) gb207 (Nat.le_of_eq hg.symm)) hb); have BK207 := am (hbox); have GW207 := am ((pg hg HB : w.heap.size ≤ gb207)); have GE207 := am ((pg hg HB : w.heap.size ≤ gb207)); replace HB := am (below_step (pb HB) hb); obtain ⟨NB206_207, NB207_206, hnb27, hnc27⟩ := pm hg BK206; replace BK206 := am (blk_below (pk BK206.out) hb); clear hb hbox hg; obtain ⟨hcz28_0, hcz28_1, hcz28_2, hcz28_3, hfz28_0, hfz28_1, hfz28_2, hfz28_3⟩ := g4 BK206) | ((with_reducible refine gate_callee (f := 21) rfl ?_); refine gl (some 10) Try.func21 #[.agg #[.int .u64 a0_0, .int .u64 a0_1, .int .i64 a0_2, .slice A0_3 l0_3.length c0_3]] ?_; (with_reducible refine (bottom_Right.calls k a0_0 a0_1 a0_2 _ _ l0_3 true _ ?side1 ?side2 A4.out).mono ?_); (case side1 => repeat (first | exact (Kd.V_reads' HO0_3.out).2.2 | (with_reducible refine Kd.C_alloc ?_ _) | (with_reducible refine Kd.C_drewN ?_ _) | (with_reducible refine Kd.C_drew ?_))); (case side2 => exact (Kd.V_reads' HO0_3.out).2.1); rintro e w29 ⟨rfl, hb⟩; refine ⟨_, rfl, ?_⟩; replace HO0_3 := am (Kd.V_below (pv HO0_3.out) hb); replace BK206 := am (blk_below (pk BK206.out) hb); replace BK207 := am (blk_below (pk BK207.out) hb); replace HB := am (below_step (pb HB) hb); (try clear hb); (try clear hb2); (try clear hk); (try clear hi)))
 replace HO0_3 := am (Kd.V_drew HO0_3.out);replace BK206 := am (blk_drew BK206.out);replace BK207 := am (blk_drew BK207.out);replace HB := am (below_drew1 HB.out)
 refine start_ (n := 14) (S := fun w' => w'.cell? ⟨gb206, 0, none⟩ = some (.int .u64 a0_0) ∧ w'.cell? ⟨gb206, 1, none⟩ = some (.int .u64 a0_1) ∧ w'.cell? ⟨gb206, 2, none⟩ = some (.int .i64 a0_2) ∧ w'.cell? ⟨gb206, 3, none⟩ = some (.slice A0_3 l0_3.length c0_3)) (ds := []) #[false, false, false, false, false, false, false, false, false, false, false, false, false, false] (by kernel_rfl) rfl rfl ⟨ce BK206 0, ce BK206 1, ce BK206 2, ce BK206 3⟩ (fun hHeld => ?_); refine with_tabW bottom_Add.tab7 bottom_Add.bits7 (fun HT_ HW_ => ?_)
 generalize w29.drew = w30 at HO0_3 BK206 BK207 HB hHeld ⊢
 refine pu 1 ?_
 refine pu 2 ?_
 refine pu 4 ?_
 refine pu 6 ?_
 refine ta 0 hHeld ?_
 refine ta 3 hHeld ?_
 refine on1 5 (fun K hK => ?_)
 refine gs Try.func30 #[.agg #[.int .u64 a0_0, .int .u64 a0_1], .string a1] ?_
 with_reducible refine (sip_Sum.calls k a0_0 a0_1 a1 t209 _ A22.out).mono ?_
 rintro e w31 ⟨rfl, hb⟩
 refine ⟨_, rfl, ?_⟩
 replace HO0_3 := am (Kd.V_below (pv HO0_3.out) hb);replace BK206 := am (blk_below (pk BK206.out) hb);replace BK207 := am (blk_below (pk BK207.out) hb);replace HB := am (below_step (pb HB) hb)
 (try clear hb)
 (try clear hb2)
 (try clear hk)
 (try clear hi)
 refine hK.out _ _ ⟨ce BK206 0, ce BK206 1, ce BK206 2, ce BK206 3⟩ (fun hHeld => ?_)
 clear hK K
 refine nm ?_
 refine on1 7 (fun K hK => ?_)
 refine gs Try.func18 #[.int .u64 a2] ?_
 with_reducible refine (wide_Of.calls a2 t210 t211 _ A23.out).mono ?_
 rintro e w32 ⟨rfl, hb⟩
 refine ⟨_, rfl, ?_⟩
 replace HO0_3 := am (Kd.V_below (pv HO0_3.out) hb);replace BK206 := am (blk_below (pk BK206.out) hb);replace BK207 := am (blk_below (pk BK207.out) hb);replace HB := am (below_step (pb HB) hb)
 (try clear hb)
 (try clear hb2)
 (try clear hk)
 (try clear hi)
 refine hK.out _ _ ⟨ce BK206 0, ce BK206 1, ce BK206 2, ce BK206 3⟩ (fun hHeld => ?_)
 clear hK K
 refine nm ?_
 refine pu 8 ?_
 refine on1 9 (fun K hK => ?_)
 refine gs Try.func28 #[.agg #[.int .u64 a0_0, .int .u64 a0_1, .int .i64 a0_2, .slice A0_3 l0_3.length c0_3], .agg #[.string a1, .int .u64 t209, .int .u64 t210, .int .u64 t211]] ?_
 with_reducible refine (bottom_add.calls k a0_0 a0_1 a0_2 (fun k_ => (((P0_3_ k_ ∨ w.heap.size ≤ k_) ∧ k_ ≠ gb206) ∧ k_ ≠ gb207)) _ _ l0_3 a1 t209 t210 t211 t212 t213 t214 t215 t218 _ ?side1 A24.out).mono ?_
 (case side1 => exact HO0_3.out)
 rintro e w33 ⟨v216, rfl, ho0, hb⟩
 refine ⟨_, rfl, ?_⟩
 replace HO0_3 := am (Kd.V_below (pv HO0_3.out) hb);have HO217 := am (Kd.V_lower (Kd.V_mono (ok' := fun k_ => (P0_3_ k_ ∨ w.heap.size ≤ k_) ∧ k_ ≠ gb206 ∧ k_ ≠ gb207) ho0 (fun k_ hk_ => ⟨Or.elim hk_ (fun hs_ => hs_.1.1) (fun hn_ => (.inr (Nat.le_trans (below_size (pb HB)) hn_))), Or.elim hk_ (fun hs_ => hs_.1.2) (fun hn_ => (Kd.freshB (g := gb206) (o := .cells #[.int .u64 a0_0, .int .u64 a0_1, .int .i64 a0_2, .slice A0_3 l0_3.length c0_3] 27 (0, 0)) (pk BK206.out) k_ hn_)), Or.elim hk_ (fun hs_ => hs_.2) (fun hn_ => (Kd.freshB (g := gb207) (o := .cells #[.int .u64 0, .int .u64 0, .int .i64 0, .slice none 0 0] 27 (0, 0)) (pk BK207.out) k_ hn_))⟩)) (below_size (pb HB)));replace BK206 := am (blk_below (pk BK206.out) hb);replace BK207 := am (blk_below (pk BK207.out) hb);replace HB := am (below_step (pb HB) hb)
 (try clear hb)
 (try clear hb2)
 (try clear hk)
 (try clear hi)
 (try clear ho0)
 obtain ⟨Ao37, co37, eo37⟩ := Kd.V_slice HO217.out
 (first | subst eo37 | (injection eo37 with f1_ f2_ f3_; have f4_ := f1_.symm; have f5_ := f3_.symm; clear f1_ f2_ f3_; subst f4_; subst f5_))
 refine hK.out _ _ ⟨ce BK206 0, ce BK206 1, ce BK206 2, ce BK206 3⟩ (fun hHeld => ?_)
 clear hK K
 refine nm ?_
 refine pu 10 ?_
 refine pu 11 ?_
 refine one_ (i := 12) (N := none) #[true, true, true, true, true, true, true, true, true, true, true, true, true, false] rfl rfl (one_of HT_.out (by kernel_rfl)) (by decide) (fun K hK => ?_)
 have hs34 : w33.cell? ⟨gb207, 0, none⟩ = some (.int .u64 0) := ce BK207 0;have hfs34 := blk_frozen BK207.out 0;have hns34_0 := NB206_207.out;have hms34_0 := NB207_206.out;have hs35 : w33.cell? ⟨gb207, 1, none⟩ = some (.int .u64 0) := ce BK207 1;have hfs35 := blk_frozen BK207.out 1;have hns35_0 := NB206_207.out;have hms35_0 := NB207_206.out;have hs36 : w33.cell? ⟨gb207, 2, none⟩ = some (.int .i64 0) := ce BK207 2;have hfs36 := blk_frozen BK207.out 2;have hns36_0 := NB206_207.out;have hms36_0 := NB207_206.out;have hs38 : w33.cell? ⟨gb207, 3, none⟩ = some (.slice none 0 0) := ce BK207 3;have hfs38 := blk_frozen BK207.out 3;have hns38_0 := NB206_207.out;have hms38_0 := NB207_206.out
 refine skip_ (w1 := ?_) (by rfl) rfl ?_ ?_
 rotate_left
 ·go_simp
  rfl
 refine hK.out _ _ ⟨((cell_far (p := ⟨gb207, _, none⟩) NB206_207.out _).trans (((cell_far (p := ⟨gb207, _, none⟩) NB206_207.out _).trans (((cell_far (p := ⟨gb207, _, none⟩) NB206_207.out _).trans (((cell_far (p := ⟨gb207, _, none⟩) NB206_207.out _).trans (hHeld.1)))))))), ((cell_far (p := ⟨gb207, _, none⟩) NB206_207.out _).trans (((cell_far (p := ⟨gb207, _, none⟩) NB206_207.out _).trans (((cell_far (p := ⟨gb207, _, none⟩) NB206_207.out _).trans (((cell_far (p := ⟨gb207, _, none⟩) NB206_207.out _).trans (hHeld.2.1)))))))), ((cell_far (p := ⟨gb207, _, none⟩) NB206_207.out _).trans (((cell_far (p := ⟨gb207, _, none⟩) NB206_207.out _).trans (((cell_far (p := ⟨gb207, _, none⟩) NB206_207.out _).trans (((cell_far (p := ⟨gb207, _, none⟩) NB206_207.out _).trans (hHeld.2.2.1)))))))), ((cell_far (p := ⟨gb207, _, none⟩) NB206_207.out _).trans (((cell_far (p := ⟨gb207, _, none⟩) NB206_207.out _).trans (((cell_far (p := ⟨gb207, _, none⟩) NB206_207.out _).trans (((cell_far (p := ⟨gb207, _, none⟩) NB206_207.out _).trans (hHeld.2.2.2))))))))⟩ (fun hHeld => ?_)
 clear hK K
 refine pu 13 ?_
 refine done_ (done_of HT_.out (by kernel_rfl)) ?_
 try go_wp2
 refine bodyPost_ret (results_ct rfl _ _ gb207 27 #[.int .u64 t212, .int .u64 t213, .int .i64 t214, .slice Ao37 t215.length co37] (0, 0) _ rfl (by refine pk ?_; refine blk_put (cs := #[.int .u64 t212, .int .u64 t213, .int .i64 t214, .slice none 0 0]) ?_ 3 _ rfl; refine pk ?_; refine blk_put (cs := #[.int .u64 t212, .int .u64 t213, .int .i64 0, .slice none 0 0]) ?_ 2 _ rfl; refine pk ?_; refine blk_put (cs := #[.int .u64 t212, .int .u64 0, .int .i64 0, .slice none 0 0]) ?_ 1 _ rfl; refine pk ?_; refine blk_put (cs := #[.int .u64 0, .int .u64 0, .int .i64 0, .slice none 0 0]) ?_ 0 _ rfl; refine pk ?_; exact BK207.out) Try.underlying27 rfl (by kernel_rfl)) rfl ?_
 exact ⟨_, by first | rfl | (simp [errW_none, errW_some] <;> rfl) | (simp [*, errW_none, errW_some] <;> rfl), by refine pv ?_; exact Kd.V_mono (Kd.V_far (p := ⟨gb207, 3, none⟩) (Kd.V_far (p := ⟨gb207, 2, none⟩) (Kd.V_far (p := ⟨gb207, 1, none⟩) (Kd.V_far (p := ⟨gb207, 0, none⟩) (Kd.V_mono HO217.out (fun k_ hk => (⟨hk, hk.2.2⟩ : _ ∧ k_ ≠ gb207))) (fun _ hk => hk.2) (.int .u64 t212)) (fun _ hk => hk.2) (.int .u64 t213)) (fun _ hk => hk.2) (.int .i64 t214)) (fun _ hk => hk.2) (.slice Ao37 t215.length co37)) (fun _ hk => hk.1.1), pb HB⟩
def bottom_Cut.f (k : Nat) (a0_0 : Int) (a0_1 : Int) (a0_2 : Int) (l0_3 : List (S62)) (a1 : Int) : Option (Int × Int × Int × (List (S62)) × Int) := (bottom_Right.f k a0_0 a0_1 a0_2 l0_3).bind fun t221 => (if t221 = true then (if a1 < 1 then (some (0, 0, 0, ([] : List (S62)), 1)) else (if a1 > a0_2 then (some (0, 0, 0, ([] : List (S62)), 1)) else (if 0 ≤ (mn (l0_3.length : Int) (wrap64 (a1 + 1))) then (if (mn (l0_3.length : Int) (wrap64 (a1 + 1))) ≤ (l0_3.length : Int) then ((bottom_Entry_32.f (l0_3.take ((mn (l0_3.length : Int) (wrap64 (a1 + 1))) : Int).toNat)).bind fun t226 => (some (a0_0, a0_1, a1, t226, 0))) else (none)) else (none)))) else (some (0, 0, 0, ([] : List (S62)), 1)))
theorem bottom_Cut.mono : ∀ a0 a1 a2 a3 a4 k, LeO (bottom_Cut.f k a0 a1 a2 a3 a4) (bottom_Cut.f (k + 1) a0 a1 a2 a3 a4) := by
 intro a0 a1 a2 a3 a4 k
 unfold bottom_Cut.f
 repeat' first
   | (with_reducible exact bottom_Right.mono _ _ _ _ _)
   | (with_reducible exact LeO.refl _)
   | (with_reducible exact LeO.none _)
   | (with_reducible refine LeO.ite ?_ ?_)
   | (with_reducible refine LeO.bind ?_ (fun _ => ?_))
def bottom_Cut.T3 : Bool × List (List Nat × List Nat) := (true, [([], []), ([0], [0]), ([], []), ([], []), ([3], [3]), ([], []), ([5], [5]), ([6], [6]), ([], []), ([8], [8]), ([7, 9], [7, 9]), ([4, 10], [4, 10]), ([11], [11]), ([1, 2, 12], [1, 2, 12]), ([13, 12, 0, 1, 2, 3, 4, 5, 6, 7, 8, 9, 10, 11, 12, 13], [13]), ([14, 0, 1, 2, 3, 4, 5, 6, 7, 8, 9, 10, 11, 12, 13, 14], [])])
def bottom_Cut.B3 : List Nat := [0, 1, 0, 0, 8, 0, 32, 96, 0, 256, 992, 2040, 4088, 8191, 16383, 32767]
theorem bottom_Cut.tab3 : rtab .any (opsOf Try.f20 3) = bottom_Cut.T3 := by kernel_rfl
theorem bottom_Cut.bits3 : waitsOk bottom_Cut.T3.2 bottom_Cut.B3 = true := by kernel_rfl
set_option maxHeartbeats 8000000 in
set_option maxRecDepth 100000 in
theorem bottom_Cut.calls (k : Nat) (a0_0 : Int) (a0_1 : Int) (a0_2 : Int) (A0_3 : Option Addr) (c0_3 : Nat) (l0_3 : List (S62)) (a1 : Int) (r1 : Int) (r2 : Int) (r3 : Int) (r4 : List (S62)) (r5 : Int) (w : World) (hr0_3 : Kd.C k62 w A0_3 l0_3.length l0_3) (hc0_3 : l0_3.length ≤ c0_3) (h : bottom_Cut.f k a0_0 a0_1 a0_2 l0_3 a1 = some (r1, r2, r3, r4, r5)) :
  Calls Try.prog 20 #[.agg #[.int .u64 a0_0, .int .u64 a0_1, .int .i64 a0_2, .slice A0_3 l0_3.length c0_3], .int .i64 a1] w fun e w' => ∃ v3_ : Value, e = .returned (.tuple #[.agg #[.int .u64 r1, .int .u64 r2, .int .i64 r3, v3_], .int .i64 r5]) ∧ Kd.V k62 62 w' w.heap.size (fun k_ => (w.heap.size ≤ k_)) v3_ r4 ∧ Below w.heap.size w w' := by
 have hu27 := Try.underlying27;have hu24 := Try.underlying24;have HR0_3 := am hr0_3;have HC0_3 := am hc0_3;clear hr0_3 hc0_3;have HB := am (Below.refl w.heap.size w);have H : ((bottom_Right.f k a0_0 a0_1 a0_2 l0_3).bind fun t221 => (if t221 = true then (if a1 < 1 then (some (0, 0, 0, ([] : List (S62)), 1)) else (if a1 > a0_2 then (some (0, 0, 0, ([] : List (S62)), 1)) else (if 0 ≤ (mn (l0_3.length : Int) (wrap64 (a1 + 1))) then (if (mn (l0_3.length : Int) (wrap64 (a1 + 1))) ≤ (l0_3.length : Int) then ((bottom_Entry_32.f (l0_3.take ((mn (l0_3.length : Int) (wrap64 (a1 + 1))) : Int).toNat)).bind fun t226 => (some (a0_0, a0_1, a1, t226, 0))) else (none)) else (none)))) else (some (0, 0, 0, ([] : List (S62)), 1)))) = some (r1, r2, r3, r4, r5) := h;clear h;replace H := Option.bind_eq_some_iff.mp H;obtain ⟨t221, A30, H⟩ := H
 try dsimp only at H
 have A3 := am A30;clear A30
 by_cases c4 : t221 = true
 rotate_left
 ·replace c4 := Bool.eq_false_iff.mpr c4;subst c4
  have H1 : (some (0, 0, 0, ([] : List (S62)), 1)) = some (r1, r2, r3, r4, r5) := by rw [if_neg (show ¬ (false = true) by decide)] at H; exact H
  clear H;have H := H1;clear H1
  simp only [Option.some.injEq, Prod.mk.injEq] at H
  obtain ⟨rfl, rfl, rfl, rfl, rfl⟩ := H
  go_enter Try.func20, Try.ntmps20
  go_wp2_with (first | ((with_reducible refine gate_dst (N := 2) rfl ?_); refine be 2 #[.int .u64 a0_0, .int .u64 a0_1, .int .i64 a0_2, .slice A0_3 l0_3.length c0_3] 27 ?_; intro gb219 hg w38 hbox hb; have BK219 := am (hbox); have GW219 := am ((pg hg HB : w.heap.size ≤ gb219)); have GE219 := am ((pg hg HB : w.heap.size ≤ gb219)); replace HB := am (below_step (pb HB) hb); clear hb hbox hg) | ((with_reducible refine gate_dst (N := 4) rfl ?_); refine be 4 #[.int .u64 0, .int .u64 0, .int .i64 0, .slice none 0 0] 27 ?_; intro gb220 hg w39 hbox hb; have BK220 := am (hbox); have GW220 := am ((pg hg HB : w.heap.size ≤ gb220)); have GE220 := am ((pg hg HB : w.heap.size ≤ gb220)); replace HB := am (below_step (pb HB) hb); obtain ⟨NB219_220, NB220_219, hnb40, hnc40⟩ := pm hg BK219; replace BK219 := am (blk_below (pk BK219.out) hb); clear hb hbox hg; obtain ⟨hcz41_0, hcz41_1, hcz41_2, hcz41_3, hfz41_0, hfz41_1, hfz41_2, hfz41_3⟩ := g4 BK219) | ((with_reducible refine gate_callee (f := 21) rfl ?_); refine gl (some 7) Try.func21 #[.agg #[.int .u64 a0_0, .int .u64 a0_1, .int .i64 a0_2, .slice A0_3 l0_3.length c0_3]] ?_; (with_reducible refine (bottom_Right.calls k a0_0 a0_1 a0_2 _ _ l0_3 false _ ?side1 ?side2 A3.out).mono ?_); (case side1 => repeat (first | exact (Kd.C_below HR0_3.out HB.out) | (with_reducible refine Kd.C_alloc ?_ _) | (with_reducible refine Kd.C_drewN ?_ _) | (with_reducible refine Kd.C_drew ?_))); (case side2 => exact HC0_3.out); rintro e w42 ⟨rfl, hb⟩; refine ⟨_, rfl, ?_⟩; replace BK219 := am (blk_below (pk BK219.out) hb); replace BK220 := am (blk_below (pk BK220.out) hb); replace HB := am (below_step (pb HB) hb); (try clear hb); (try clear hb2); (try clear hk); (try clear hi); obtain ⟨hcz43_0, hcz43_1, hcz43_2, hcz43_3, hfz43_0, hfz43_1, hfz43_2, hfz43_3⟩ := g4 BK220))
  refine bodyPost_ret (results_ct rfl _ _ gb220 27 #[.int .u64 0, .int .u64 0, .int .i64 0, .slice none 0 0] (0, 0) _ rfl (by refine pk ?_; refine blk_put (cs := #[.int .u64 0, .int .u64 0, .int .i64 0, .slice none 0 0]) ?_ 3 _ rfl; refine pk ?_; refine blk_put (cs := #[.int .u64 0, .int .u64 0, .int .i64 0, .slice none 0 0]) ?_ 2 _ rfl; refine pk ?_; refine blk_put (cs := #[.int .u64 0, .int .u64 0, .int .i64 0, .slice none 0 0]) ?_ 1 _ rfl; refine pk ?_; refine blk_put (cs := #[.int .u64 0, .int .u64 0, .int .i64 0, .slice none 0 0]) ?_ 0 _ rfl; refine pk ?_; exact BK220.out) Try.underlying27 rfl (by kernel_rfl)) rfl ?_
  exact ⟨_, by first | rfl | (simp [errW_none, errW_some] <;> rfl) | (simp [*, errW_none, errW_some] <;> rfl), Kd.V_nil _ _ _ _ _, pb HB⟩
 subst c4
 have H1 : (if a1 < 1 then (some (0, 0, 0, ([] : List (S62)), 1)) else (if a1 > a0_2 then (some (0, 0, 0, ([] : List (S62)), 1)) else (if 0 ≤ (mn (l0_3.length : Int) (wrap64 (a1 + 1))) then (if (mn (l0_3.length : Int) (wrap64 (a1 + 1))) ≤ (l0_3.length : Int) then ((bottom_Entry_32.f (l0_3.take ((mn (l0_3.length : Int) (wrap64 (a1 + 1))) : Int).toNat)).bind fun t226 => (some (a0_0, a0_1, a1, t226, 0))) else (none)) else (none)))) = some (r1, r2, r3, r4, r5) := by rw [if_pos rfl] at H; exact H
 clear H;have H := H1;clear H1
 by_cases c5 : a1 < 1
 ·rw [if_pos c5] at H;have c5b0 : decide (a1 < 1) = true := decide_eq_true c5;clear c5
  simp only [Option.some.injEq, Prod.mk.injEq] at H
  obtain ⟨rfl, rfl, rfl, rfl, rfl⟩ := H
  go_enter Try.func20, Try.ntmps20
  go_wp2_with (first | ((with_reducible refine gate_dst (N := 2) rfl ?_); refine be 2 #[.int .u64 a0_0, .int .u64 a0_1, .int .i64 a0_2, .slice A0_3 l0_3.length c0_3] 27 ?_; intro gb219 hg w6 hbox hb; have BK219 := am (hbox); have GW219 := am ((pg hg HB : w.heap.size ≤ gb219)); have GE219 := am ((pg hg HB : w.heap.size ≤ gb219)); replace HB := am (below_step (pb HB) hb); clear hb hbox hg) | ((with_reducible refine gate_dst (N := 4) rfl ?_); refine be 4 #[.int .u64 0, .int .u64 0, .int .i64 0, .slice none 0 0] 27 ?_; intro gb220 hg w7 hbox hb; have BK220 := am (hbox); have GW220 := am ((pg hg HB : w.heap.size ≤ gb220)); have GE220 := am ((pg hg HB : w.heap.size ≤ gb220)); replace HB := am (below_step (pb HB) hb); obtain ⟨NB219_220, NB220_219, hnb8, hnc8⟩ := pm hg BK219; replace BK219 := am (blk_below (pk BK219.out) hb); clear hb hbox hg; obtain ⟨hcz9_0, hcz9_1, hcz9_2, hcz9_3, hfz9_0, hfz9_1, hfz9_2, hfz9_3⟩ := g4 BK219) | ((with_reducible refine gate_callee (f := 21) rfl ?_); refine gl (some 7) Try.func21 #[.agg #[.int .u64 a0_0, .int .u64 a0_1, .int .i64 a0_2, .slice A0_3 l0_3.length c0_3]] ?_; (with_reducible refine (bottom_Right.calls k a0_0 a0_1 a0_2 _ _ l0_3 true _ ?side1 ?side2 A3.out).mono ?_); (case side1 => repeat (first | exact (Kd.C_below HR0_3.out HB.out) | (with_reducible refine Kd.C_alloc ?_ _) | (with_reducible refine Kd.C_drewN ?_ _) | (with_reducible refine Kd.C_drew ?_))); (case side2 => exact HC0_3.out); rintro e w10 ⟨rfl, hb⟩; refine ⟨_, rfl, ?_⟩; replace BK219 := am (blk_below (pk BK219.out) hb); replace BK220 := am (blk_below (pk BK220.out) hb); replace HB := am (below_step (pb HB) hb); (try clear hb); (try clear hb2); (try clear hk); (try clear hi); obtain ⟨hcz11_0, hcz11_1, hcz11_2, hcz11_3, hfz11_0, hfz11_1, hfz11_2, hfz11_3⟩ := g4 BK220))
  refine bodyPost_ret (results_ct rfl _ _ gb220 27 #[.int .u64 0, .int .u64 0, .int .i64 0, .slice none 0 0] (0, 0) _ rfl (by refine pk ?_; refine blk_put (cs := #[.int .u64 0, .int .u64 0, .int .i64 0, .slice none 0 0]) ?_ 3 _ rfl; refine pk ?_; refine blk_put (cs := #[.int .u64 0, .int .u64 0, .int .i64 0, .slice none 0 0]) ?_ 2 _ rfl; refine pk ?_; refine blk_put (cs := #[.int .u64 0, .int .u64 0, .int .i64 0, .slice none 0 0]) ?_ 1 _ rfl; refine pk ?_; refine blk_put (cs := #[.int .u64 0, .int .u64 0, .int .i64 0, .slice none 0 0]) ?_ 0 _ rfl; refine pk ?_; exact BK220.out) Try.underlying27 rfl (by kernel_rfl)) rfl ?_
  exact ⟨_, by first | rfl | (simp [errW_none, errW_some] <;> rfl) | (simp [*, errW_none, errW_some] <;> rfl), Kd.V_nil _ _ _ _ _, pb HB⟩
 rw [if_neg c5] at H;have c5b0 : decide (a1 < 1) = false := decide_eq_false c5;clear c5
 by_cases c12 : a1 > a0_2
 ·rw [if_pos c12] at H;have c12b0 : decide (a0_2 < a1) = true := decide_eq_true c12;clear c12
  simp only [Option.some.injEq, Prod.mk.injEq] at H
  obtain ⟨rfl, rfl, rfl, rfl, rfl⟩ := H
  go_enter Try.func20, Try.ntmps20
  go_wp2_with (first | ((with_reducible refine gate_dst (N := 2) rfl ?_); refine be 2 #[.int .u64 a0_0, .int .u64 a0_1, .int .i64 a0_2, .slice A0_3 l0_3.length c0_3] 27 ?_; intro gb219 hg w13 hbox hb; have BK219 := am (hbox); have GW219 := am ((pg hg HB : w.heap.size ≤ gb219)); have GE219 := am ((pg hg HB : w.heap.size ≤ gb219)); replace HB := am (below_step (pb HB) hb); clear hb hbox hg) | ((with_reducible refine gate_dst (N := 4) rfl ?_); refine be 4 #[.int .u64 0, .int .u64 0, .int .i64 0, .slice none 0 0] 27 ?_; intro gb220 hg w14 hbox hb; have BK220 := am (hbox); have GW220 := am ((pg hg HB : w.heap.size ≤ gb220)); have GE220 := am ((pg hg HB : w.heap.size ≤ gb220)); replace HB := am (below_step (pb HB) hb); obtain ⟨NB219_220, NB220_219, hnb15, hnc15⟩ := pm hg BK219; replace BK219 := am (blk_below (pk BK219.out) hb); clear hb hbox hg; obtain ⟨hcz16_0, hcz16_1, hcz16_2, hcz16_3, hfz16_0, hfz16_1, hfz16_2, hfz16_3⟩ := g4 BK219) | ((with_reducible refine gate_callee (f := 21) rfl ?_); refine gl (some 7) Try.func21 #[.agg #[.int .u64 a0_0, .int .u64 a0_1, .int .i64 a0_2, .slice A0_3 l0_3.length c0_3]] ?_; (with_reducible refine (bottom_Right.calls k a0_0 a0_1 a0_2 _ _ l0_3 true _ ?side1 ?side2 A3.out).mono ?_); (case side1 => repeat (first | exact (Kd.C_below HR0_3.out HB.out) | (with_reducible refine Kd.C_alloc ?_ _) | (with_reducible refine Kd.C_drewN ?_ _) | (with_reducible refine Kd.C_drew ?_))); (case side2 => exact HC0_3.out); rintro e w17 ⟨rfl, hb⟩; refine ⟨_, rfl, ?_⟩; replace BK219 := am (blk_below (pk BK219.out) hb); replace BK220 := am (blk_below (pk BK220.out) hb); replace HB := am (below_step (pb HB) hb); (try clear hb); (try clear hb2); (try clear hk); (try clear hi); obtain ⟨hcz18_0, hcz18_1, hcz18_2, hcz18_3, hfz18_0, hfz18_1, hfz18_2, hfz18_3⟩ := g4 BK219; obtain ⟨hcz19_0, hcz19_1, hcz19_2, hcz19_3, hfz19_0, hfz19_1, hfz19_2, hfz19_3⟩ := g4 BK220))
  refine bodyPost_ret (results_ct rfl _ _ gb220 27 #[.int .u64 0, .int .u64 0, .int .i64 0, .slice none 0 0] (0, 0) _ rfl (by refine pk ?_; refine blk_put (cs := #[.int .u64 0, .int .u64 0, .int .i64 0, .slice none 0 0]) ?_ 3 _ rfl; refine pk ?_; refine blk_put (cs := #[.int .u64 0, .int .u64 0, .int .i64 0, .slice none 0 0]) ?_ 2 _ rfl; refine pk ?_; refine blk_put (cs := #[.int .u64 0, .int .u64 0, .int .i64 0, .slice none 0 0]) ?_ 1 _ rfl; refine pk ?_; refine blk_put (cs := #[.int .u64 0, .int .u64 0, .int .i64 0, .slice none 0 0]) ?_ 0 _ rfl; refine pk ?_; exact BK220.out) Try.underlying27 rfl (by kernel_rfl)) rfl ?_
  exact ⟨_, by first | rfl | (simp [errW_none, errW_some] <;> rfl) | (simp [*, errW_none, errW_some] <;> rfl), Kd.V_nil _ _ _ _ _, pb HB⟩
 rw [if_neg c12] at H;have c12b0 : decide (a0_2 < a1) = false := decide_eq_false c12;clear c12;obtain ⟨ji20, hji20⟩ : ∃ j_ : Int, (mn (l0_3.length : Int) (wrap64 (a1 + 1))) = j_ := ⟨_, rfl⟩
 replace H : (if 0 ≤ (ji20) then (if (ji20) ≤ (l0_3.length : Int) then ((bottom_Entry_32.f (l0_3.take ((ji20) : Int).toNat)).bind fun t226 => (some (a0_0, a0_1, a1, t226, 0))) else (none)) else (none)) = some (r1, r2, r3, r4, r5) := by first | (rw [hji20] at H; exact H) | (simp only [hji20] at H ⊢; exact H)
 (try rw [hji20] at A3)
 have hji20_ : (if (wrap64 (a1 + 1)) < (l0_3.length : Int) then (wrap64 (a1 + 1)) else (l0_3.length : Int)) = ji20 := hji20
 by_cases c21 : 0 ≤ (ji20)
 rotate_left
 ·rw [if_neg c21] at H;exact absurd H (by simp)
 rw [if_pos c21] at H;have c21b0 := eq_true c21;have c21b1 : decide (0 ≤ (ji20)) = true := decide_eq_true c21;clear c21
 by_cases c22 : (ji20) ≤ (l0_3.length : Int)
 rotate_left
 ·rw [if_neg c22] at H;exact absurd H (by simp)
 rw [if_pos c22] at H;have c22b0 := eq_true c22;have c22b1 : decide ((ji20) ≤ (l0_3.length : Int)) = true := decide_eq_true c22;clear c22;obtain ⟨y222, hy222⟩ : ∃ y_ : List (S62), y_ = (l0_3.take ((ji20) : Int).toNat) := ⟨_, rfl⟩
 replace H : ((bottom_Entry_32.f y222).bind fun t226 => (some (a0_0, a0_1, a1, t226, 0))) = some (r1, r2, r3, r4, r5) := by first | (rw [hy222]; with_reducible exact H) | (have H2_ := (Option.bind_some _ _).symm.trans H; rw [hy222]; with_reducible exact H2_) | (have H2_ := (Option.bind_some _ _).symm.trans H; with_reducible exact H2_) | with_reducible exact H | (rw [hy222]; exact H) | exact H
 have Ny222 := am hy222;clear hy222;replace H := Option.bind_eq_some_iff.mp H;obtain ⟨t226, A230, H⟩ := H
 try dsimp only at H
 have A23 := am A230;clear A230
 simp only [Option.some.injEq, Prod.mk.injEq] at H
 obtain ⟨rfl, rfl, rfl, rfl, rfl⟩ := H
 go_enter Try.func20, Try.ntmps20
 try go_wp2_with (first | ((with_reducible refine gate_dst (N := 2) rfl ?_); refine be 2 #[.int .u64 a0_0, .int .u64 a0_1, .int .i64 a0_2, .slice A0_3 l0_3.length c0_3] 27 ?_; intro gb219 hg w24 hbox hb; have BK219 := am (hbox); have GW219 := am ((pg hg HB : w.heap.size ≤ gb219)); have GE219 := am ((pg hg HB : w.heap.size ≤ gb219)); replace HB := am (below_step (pb HB) hb); clear hb hbox hg) | ((with_reducible refine gate_dst (N := 4) rfl ?_); refine be 4 #[.int .u64 0, .int .u64 0, .int .i64 0, .slice none 0 0] 27 ?_; intro gb220 hg w25 hbox hb; have BK220 := am (hbox); have GW220 := am ((pg hg HB : w.heap.size ≤ gb220)); have GE220 := am ((pg hg HB : w.heap.size ≤ gb220)); replace HB := am (below_step (pb HB) hb); obtain ⟨NB219_220, NB220_219, hnb26, hnc26⟩ := pm hg BK219; replace BK219 := am (blk_below (pk BK219.out) hb); clear hb hbox hg; obtain ⟨hcz27_0, hcz27_1, hcz27_2, hcz27_3, hfz27_0, hfz27_1, hfz27_2, hfz27_3⟩ := g4 BK219) | ((with_reducible refine gate_callee (f := 21) rfl ?_); refine gl (some 7) Try.func21 #[.agg #[.int .u64 a0_0, .int .u64 a0_1, .int .i64 a0_2, .slice A0_3 l0_3.length c0_3]] ?_; (with_reducible refine (bottom_Right.calls k a0_0 a0_1 a0_2 _ _ l0_3 true _ ?side1 ?side2 A3.out).mono ?_); (case side1 => repeat (first | exact (Kd.C_below HR0_3.out HB.out) | (with_reducible refine Kd.C_alloc ?_ _) | (with_reducible refine Kd.C_drewN ?_ _) | (with_reducible refine Kd.C_drew ?_))); (case side2 => exact HC0_3.out); rintro e w28 ⟨rfl, hb⟩; refine ⟨_, rfl, ?_⟩; replace BK219 := am (blk_below (pk BK219.out) hb); replace BK220 := am (blk_below (pk BK220.out) hb); replace HB := am (below_step (pb HB) hb); (try clear hb); (try clear hb2); (try clear hk); (try clear hi); obtain ⟨hcz29_0, hcz29_1, hcz29_2, hcz29_3, hfz29_0, hfz29_1, hfz29_2, hfz29_3⟩ := g4 BK219))
 replace BK219 := am (blk_drew BK219.out);replace BK220 := am (blk_drew BK220.out);replace HB := am (below_drew1 HB.out);have q31 : ((ji20) : Int) ≤ ((l0_3.length : Int) : Int) := of_decide_eq_true (by first | (with_reducible assumption) | assumption);obtain ⟨i031, hi031, _, hsz31, _⟩ := info_parts info62;have hroom31 : l0_3.length ≤ c0_3 := HC0_3.out;have hC31 : Kd.C k62 _ A0_3 l0_3.length l0_3 := HR0_3.out;have hcut31 := cut_to (P := Try.prog) 25 62 .i64 Try.underlying25 hi031 A0_3 l0_3.length c0_3 (ji20) (of_decide_eq_true (by first | (with_reducible assumption) | assumption)) q31 hroom31;have hr31 := Kd.C_take (m := ((ji20) : Int).toNat) hC31 (by omega);have hy31 : y222.length = ((ji20) : Int).toNat := (by rw [Ny222.out, List.length_take]; omega);rw [← Ny222.out] at hr31;rw [← hy31] at hcut31;have HR225 := am hr31;have HC225 := am (show y222.length ≤ c0_3 from by omega);clear hr31 hC31 hroom31 hi031 hsz31;have KY31 := am hy31;clear hy31;replace q31 := eq_true q31
 refine start_ (n := 16) (S := fun w' => w'.cell? ⟨gb219, 0, none⟩ = some (.int .u64 a0_0) ∧ w'.cell? ⟨gb219, 1, none⟩ = some (.int .u64 a0_1) ∧ w'.cell? ⟨gb219, 2, none⟩ = some (.int .i64 a0_2) ∧ w'.cell? ⟨gb219, 3, none⟩ = some (.slice A0_3 l0_3.length c0_3)) (ds := []) #[false, false, false, false, false, false, false, false, false, false, false, false, false, false, false, false] (by kernel_rfl) rfl rfl ⟨ce BK219 0, ce BK219 1, ce BK219 2, ce BK219 3⟩ (fun hHeld => ?_); refine with_tabW bottom_Cut.tab3 bottom_Cut.bits3 (fun HT_ HW_ => ?_)
 generalize w28.drew = w30 at BK219 BK220 HB HR225 hHeld ⊢
 refine pu 0 ?_
 refine pu 2 ?_
 refine pu 3 ?_
 refine pu 5 ?_
 refine pu 8 ?_
 refine pu 9 ?_
 refine ta 1 hHeld ?_
 refine ta 4 hHeld ?_
 refine ta 6 hHeld ?_
 refine pu 7 ?_
 refine pu 10 ?_
 refine pu 11 ?_
 refine on1 12 (fun K hK => ?_)
 refine gs Try.func32 #[.slice A0_3 y222.length c0_3] ?_
 with_reducible refine (bottom_Entry_32.calls _ _ y222 t226 _ ?side1 ?side2 A23.out).mono ?_
 (case side1 => repeat (first | exact (Kd.C_below HR225.out HB.out) | (with_reducible refine Kd.C_alloc ?_ _) | (with_reducible refine Kd.C_drewN ?_ _) | (with_reducible refine Kd.C_drew ?_)))
 (case side2 => exact HC225.out)
 rintro e w32 ⟨v227, rfl, ho0, hb⟩
 refine ⟨_, rfl, ?_⟩
 have HO228 := am (Kd.R_lower (Kd.R_newM (M := fun k_ => (w.heap.size ≤ k_)) ho0 (below_size (pb HB)) (fun k_ h_ => h_)) (below_size (pb HB)));replace BK219 := am (blk_below (pk BK219.out) hb);replace BK220 := am (blk_below (pk BK220.out) hb);replace HB := am (below_step (pb HB) hb)
 (try clear hb)
 (try clear hb2)
 (try clear hk)
 (try clear hi)
 (try clear ho0)
 obtain ⟨Ao33, co33, eo33⟩ := Kd.R_slice HO228.out
 (first | subst eo33 | (injection eo33 with f1_ f2_ f3_; have f4_ := f1_.symm; have f5_ := f3_.symm; clear f1_ f2_ f3_; subst f4_; subst f5_))
 refine hK.out _ _ ⟨ce BK219 0, ce BK219 1, ce BK219 2, ce BK219 3⟩ (fun hHeld => ?_)
 clear hK K
 refine nm ?_
 refine pu 13 ?_
 refine one_ (i := 14) (N := none) #[true, true, true, true, true, true, true, true, true, true, true, true, true, true, true, false] rfl rfl (one_of HT_.out (by kernel_rfl)) (by decide) (fun K hK => ?_)
 have hs34 : w32.cell? ⟨gb220, 0, none⟩ = some (.int .u64 0) := ce BK220 0;have hfs34 := blk_frozen BK220.out 0;have hns34_0 := NB219_220.out;have hms34_0 := NB220_219.out;have hs35 : w32.cell? ⟨gb220, 1, none⟩ = some (.int .u64 0) := ce BK220 1;have hfs35 := blk_frozen BK220.out 1;have hns35_0 := NB219_220.out;have hms35_0 := NB220_219.out;have hs36 : w32.cell? ⟨gb220, 2, none⟩ = some (.int .i64 0) := ce BK220 2;have hfs36 := blk_frozen BK220.out 2;have hns36_0 := NB219_220.out;have hms36_0 := NB220_219.out;have hs37 : w32.cell? ⟨gb220, 3, none⟩ = some (.slice none 0 0) := ce BK220 3;have hfs37 := blk_frozen BK220.out 3;have hns37_0 := NB219_220.out;have hms37_0 := NB220_219.out
 refine skip_ (w1 := ?_) (by rfl) rfl ?_ ?_
 rotate_left
 ·go_simp
  rfl
 refine hK.out _ _ ⟨((cell_far (p := ⟨gb220, _, none⟩) NB219_220.out _).trans (((cell_far (p := ⟨gb220, _, none⟩) NB219_220.out _).trans (((cell_far (p := ⟨gb220, _, none⟩) NB219_220.out _).trans (((cell_far (p := ⟨gb220, _, none⟩) NB219_220.out _).trans (hHeld.1)))))))), ((cell_far (p := ⟨gb220, _, none⟩) NB219_220.out _).trans (((cell_far (p := ⟨gb220, _, none⟩) NB219_220.out _).trans (((cell_far (p := ⟨gb220, _, none⟩) NB219_220.out _).trans (((cell_far (p := ⟨gb220, _, none⟩) NB219_220.out _).trans (hHeld.2.1)))))))), ((cell_far (p := ⟨gb220, _, none⟩) NB219_220.out _).trans (((cell_far (p := ⟨gb220, _, none⟩) NB219_220.out _).trans (((cell_far (p := ⟨gb220, _, none⟩) NB219_220.out _).trans (((cell_far (p := ⟨gb220, _, none⟩) NB219_220.out _).trans (hHeld.2.2.1)))))))), ((cell_far (p := ⟨gb220, _, none⟩) NB219_220.out _).trans (((cell_far (p := ⟨gb220, _, none⟩) NB219_220.out _).trans (((cell_far (p := ⟨gb220, _, none⟩) NB219_220.out _).trans (((cell_far (p := ⟨gb220, _, none⟩) NB219_220.out _).trans (hHeld.2.2.2))))))))⟩ (fun hHeld => ?_)
 clear hK K
 refine pu 15 ?_
 refine done_ (done_of HT_.out (by kernel_rfl)) ?_
 try go_wp2
 refine bodyPost_ret (results_ct rfl _ _ gb220 27 #[.int .u64 a0_0, .int .u64 a0_1, .int .i64 a1, .slice Ao33 t226.length co33] (0, 0) _ rfl (by refine pk ?_; refine blk_put (cs := #[.int .u64 a0_0, .int .u64 a0_1, .int .i64 a1, .slice none 0 0]) ?_ 3 _ rfl; refine pk ?_; refine blk_put (cs := #[.int .u64 a0_0, .int .u64 a0_1, .int .i64 0, .slice none 0 0]) ?_ 2 _ rfl; refine pk ?_; refine blk_put (cs := #[.int .u64 a0_0, .int .u64 0, .int .i64 0, .slice none 0 0]) ?_ 1 _ rfl; refine pk ?_; refine blk_put (cs := #[.int .u64 0, .int .u64 0, .int .i64 0, .slice none 0 0]) ?_ 0 _ rfl; refine pk ?_; exact BK220.out) Try.underlying27 rfl (by kernel_rfl)) rfl ?_
 exact ⟨_, by first | rfl | (simp [errW_none, errW_some] <;> rfl) | (simp only [← hji20]; first | rfl | (simp [errW_none, errW_some] <;> rfl)) | (simp [*, errW_none, errW_some] <;> rfl), Kd.R_V (pr (Kd.R_mono (Kd.R_far (p := ⟨gb220, 3, none⟩) (Kd.R_far (p := ⟨gb220, 2, none⟩) (Kd.R_far (p := ⟨gb220, 1, none⟩) (Kd.R_far (p := ⟨gb220, 0, none⟩) (Kd.R_types HO228.out BK220.out (by decide)) (fun _ hk => hk.2) (.int .u64 a0_0)) (fun _ hk => hk.2) (.int .u64 a0_1)) (fun _ hk => hk.2) (.int .i64 a1)) (fun _ hk => hk.2) (.slice Ao33 t226.length co33)) (fun _ hk => hk.1.1))), pb HB⟩
def bottom_Threshold.f (k : Nat) (a0_0 : Int) (a0_1 : Int) (a0_2 : Int) (l0_3 : List (S62)) : Option (Int × Bool) := (bottom_Right.f k a0_0 a0_1 a0_2 l0_3).bind fun t230 => (if t230 = true then (if (l0_3.length : Int) ≤ a0_2 then (some (0, false)) else (if 0 ≤ a0_2 then (if a0_2 < (l0_3.length : Int) then (some ((rd_T62 l0_3 a0_2).f1, true)) else (none)) else (none))) else (some (0, false)))
theorem bottom_Threshold.mono : ∀ a0 a1 a2 a3 k, LeO (bottom_Threshold.f k a0 a1 a2 a3) (bottom_Threshold.f (k + 1) a0 a1 a2 a3) := by
 intro a0 a1 a2 a3 k
 unfold bottom_Threshold.f
 repeat' first
   | (with_reducible exact bottom_Right.mono _ _ _ _ _)
   | (with_reducible exact LeO.refl _)
   | (with_reducible exact LeO.none _)
   | (with_reducible refine LeO.ite ?_ ?_)
   | (with_reducible refine LeO.bind ?_ (fun _ => ?_))
set_option maxHeartbeats 8000000 in
set_option maxRecDepth 100000 in
theorem bottom_Threshold.calls (k : Nat) (a0_0 : Int) (a0_1 : Int) (a0_2 : Int) (A0_3 : Option Addr) (c0_3 : Nat) (l0_3 : List (S62)) (r1 : Int) (r2 : Bool) (w : World) (hr0_3 : Kd.C k62 w A0_3 l0_3.length l0_3) (hc0_3 : l0_3.length ≤ c0_3) (h : bottom_Threshold.f k a0_0 a0_1 a0_2 l0_3 = some (r1, r2)) :
  Calls Try.prog 25 #[.agg #[.int .u64 a0_0, .int .u64 a0_1, .int .i64 a0_2, .slice A0_3 l0_3.length c0_3]] w fun e w' => e = .returned (.tuple #[.int .u64 r1, .bool r2]) ∧ Below w.heap.size w w' := by
 have hu27 := Try.underlying27;have HR0_3 := am hr0_3;have HC0_3 := am hc0_3;clear hr0_3 hc0_3;have HB := am (Below.refl w.heap.size w);have H : ((bottom_Right.f k a0_0 a0_1 a0_2 l0_3).bind fun t230 => (if t230 = true then (if (l0_3.length : Int) ≤ a0_2 then (some (0, false)) else (if 0 ≤ a0_2 then (if a0_2 < (l0_3.length : Int) then (some ((rd_T62 l0_3 a0_2).f1, true)) else (none)) else (none))) else (some (0, false)))) = some (r1, r2) := h;clear h;replace H := Option.bind_eq_some_iff.mp H;obtain ⟨t230, A20, H⟩ := H
 try dsimp only at H
 have A2 := am A20;clear A20
 by_cases c3 : t230 = true
 rotate_left
 ·replace c3 := Bool.eq_false_iff.mpr c3;subst c3
  have H1 : (some (0, false)) = some (r1, r2) := by rw [if_neg (show ¬ (false = true) by decide)] at H; exact H
  clear H;have H := H1;clear H1
  simp only [Option.some.injEq, Prod.mk.injEq] at H
  obtain ⟨rfl, rfl⟩ := H
  go_enter Try.func25, Try.ntmps25
  go_wp2_with (first | ((with_reducible refine gate_dst (N := 1) rfl ?_); (try (refine gate_guard (by rfl) ?_; dsimp only)); refine be 1 #[.int .u64 a0_0, .int .u64 a0_1, .int .i64 a0_2, .slice A0_3 l0_3.length c0_3] 27 ?_; intro gb229 hg w15 hbox hb; have BK229 := am (hbox); have GW229 := am ((pg hg HB : w.heap.size ≤ gb229)); have GE229 := am ((pg hg HB : w.heap.size ≤ gb229)); replace HB := am (below_step (pb HB) hb); clear hb hbox hg; obtain ⟨hcz16_0, hcz16_1, hcz16_2, hcz16_3, hfz16_0, hfz16_1, hfz16_2, hfz16_3⟩ := g4 BK229) | ((with_reducible refine gate_callee (f := 21) rfl ?_); refine gl (some 5) Try.func21 #[.agg #[.int .u64 a0_0, .int .u64 a0_1, .int .i64 a0_2, .slice A0_3 l0_3.length c0_3]] ?_; (with_reducible refine (bottom_Right.calls k a0_0 a0_1 a0_2 _ _ l0_3 false _ ?side1 ?side2 A2.out).mono ?_); (case side1 => repeat (first | exact (Kd.C_below HR0_3.out HB.out) | (with_reducible refine Kd.C_alloc ?_ _) | (with_reducible refine Kd.C_drewN ?_ _) | (with_reducible refine Kd.C_drew ?_))); (case side2 => exact HC0_3.out); rintro e w17 ⟨rfl, hb⟩; refine ⟨_, rfl, ?_⟩; replace BK229 := am (blk_below (pk BK229.out) hb); replace HB := am (below_step (pb HB) hb); (try clear hb); (try clear hb2); (try clear hk); (try clear hi)))
  go_ret2
  exact ⟨by first | rfl | (simp [errW_none, errW_some] <;> rfl) | (simp [*, errW_none, errW_some] <;> rfl), pb HB⟩
 subst c3
 have H1 : (if (l0_3.length : Int) ≤ a0_2 then (some (0, false)) else (if 0 ≤ a0_2 then (if a0_2 < (l0_3.length : Int) then (some ((rd_T62 l0_3 a0_2).f1, true)) else (none)) else (none))) = some (r1, r2) := by rw [if_pos rfl] at H; exact H
 clear H;have H := H1;clear H1
 by_cases c4 : (l0_3.length : Int) ≤ a0_2
 ·rw [if_pos c4] at H;have c4b0 : decide ((l0_3.length : Int) ≤ a0_2) = true := decide_eq_true c4;clear c4
  simp only [Option.some.injEq, Prod.mk.injEq] at H
  obtain ⟨rfl, rfl⟩ := H
  go_enter Try.func25, Try.ntmps25
  go_wp2_with (first | ((with_reducible refine gate_dst (N := 1) rfl ?_); (try (refine gate_guard (by rfl) ?_; dsimp only)); refine be 1 #[.int .u64 a0_0, .int .u64 a0_1, .int .i64 a0_2, .slice A0_3 l0_3.length c0_3] 27 ?_; intro gb229 hg w5 hbox hb; have BK229 := am (hbox); have GW229 := am ((pg hg HB : w.heap.size ≤ gb229)); have GE229 := am ((pg hg HB : w.heap.size ≤ gb229)); replace HB := am (below_step (pb HB) hb); clear hb hbox hg; obtain ⟨hcz6_0, hcz6_1, hcz6_2, hcz6_3, hfz6_0, hfz6_1, hfz6_2, hfz6_3⟩ := g4 BK229) | ((with_reducible refine gate_callee (f := 21) rfl ?_); refine gl (some 5) Try.func21 #[.agg #[.int .u64 a0_0, .int .u64 a0_1, .int .i64 a0_2, .slice A0_3 l0_3.length c0_3]] ?_; (with_reducible refine (bottom_Right.calls k a0_0 a0_1 a0_2 _ _ l0_3 true _ ?side1 ?side2 A2.out).mono ?_); (case side1 => repeat (first | exact (Kd.C_below HR0_3.out HB.out) | (with_reducible refine Kd.C_alloc ?_ _) | (with_reducible refine Kd.C_drewN ?_ _) | (with_reducible refine Kd.C_drew ?_))); (case side2 => exact HC0_3.out); rintro e w7 ⟨rfl, hb⟩; refine ⟨_, rfl, ?_⟩; replace BK229 := am (blk_below (pk BK229.out) hb); replace HB := am (below_step (pb HB) hb); (try clear hb); (try clear hb2); (try clear hk); (try clear hi); obtain ⟨hcz8_0, hcz8_1, hcz8_2, hcz8_3, hfz8_0, hfz8_1, hfz8_2, hfz8_3⟩ := g4 BK229))
  go_ret2
  exact ⟨by first | rfl | (simp [errW_none, errW_some] <;> rfl) | (simp [*, errW_none, errW_some] <;> rfl), pb HB⟩
 rw [if_neg c4] at H;have c4b0 : decide ((l0_3.length : Int) ≤ a0_2) = false := decide_eq_false c4;clear c4
 by_cases c9 : 0 ≤ a0_2
 rotate_left
 ·rw [if_neg c9] at H;exact absurd H (by simp)
 rw [if_pos c9] at H;have c9b0 : decide (0 ≤ a0_2) = true := decide_eq_true c9;clear c9
 by_cases c10 : a0_2 < (l0_3.length : Int)
 rotate_left
 ·rw [if_neg c10] at H;exact absurd H (by simp)
 rw [if_pos c10] at H;have c10b0 : decide (a0_2 < (l0_3.length : Int)) = true := decide_eq_true c10;clear c10
 simp only [Option.some.injEq, Prod.mk.injEq] at H
 obtain ⟨rfl, rfl⟩ := H
 go_enter Try.func25, Try.ntmps25
 go_wp2_with (first | ((with_reducible refine gate_dst (N := 1) rfl ?_); (try (refine gate_guard (by rfl) ?_; dsimp only)); refine be 1 #[.int .u64 a0_0, .int .u64 a0_1, .int .i64 a0_2, .slice A0_3 l0_3.length c0_3] 27 ?_; intro gb229 hg w11 hbox hb; have BK229 := am (hbox); have GW229 := am ((pg hg HB : w.heap.size ≤ gb229)); have GE229 := am ((pg hg HB : w.heap.size ≤ gb229)); replace HB := am (below_step (pb HB) hb); clear hb hbox hg; obtain ⟨hcz12_0, hcz12_1, hcz12_2, hcz12_3, hfz12_0, hfz12_1, hfz12_2, hfz12_3⟩ := g4 BK229) | ((with_reducible refine gate_callee (f := 21) rfl ?_); refine gl (some 5) Try.func21 #[.agg #[.int .u64 a0_0, .int .u64 a0_1, .int .i64 a0_2, .slice A0_3 l0_3.length c0_3]] ?_; (with_reducible refine (bottom_Right.calls k a0_0 a0_1 a0_2 _ _ l0_3 true _ ?side1 ?side2 A2.out).mono ?_); (case side1 => repeat (first | exact (Kd.C_below HR0_3.out HB.out) | (with_reducible refine Kd.C_alloc ?_ _) | (with_reducible refine Kd.C_drewN ?_ _) | (with_reducible refine Kd.C_drew ?_))); (case side2 => exact HC0_3.out); rintro e w13 ⟨rfl, hb⟩; refine ⟨_, rfl, ?_⟩; replace BK229 := am (blk_below (pk BK229.out) hb); replace HB := am (below_step (pb HB) hb); (try clear hb); (try clear hb2); (try clear hk); (try clear hi); obtain ⟨hcz14_0, hcz14_1, hcz14_2, hcz14_3, hfz14_0, hfz14_1, hfz14_2, hfz14_3⟩ := g4 BK229; have p231 : 0 ≤ (a0_2 : Int) := of_decide_eq_true (by first | (with_reducible assumption) | assumption); have q231 : a0_2 < (l0_3.length : Int) := of_decide_eq_true (by first | (with_reducible assumption) | assumption); obtain ⟨ad231, e231, hx231_0, hx231_1, hx231_2, hx231_3⟩ := at_T62 HR0_3.out a0_2 p231 q231; cases e231; replace hx231_0 := (HB.out.cell (World.block_lt_of_cell? w _ hx231_0)).trans hx231_0; replace hx231_1 := (HB.out.cell (World.block_lt_of_cell? w _ hx231_1)).trans hx231_1; replace hx231_2 := (HB.out.cell (World.block_lt_of_cell? w _ hx231_2)).trans hx231_2; replace hx231_3 := (HB.out.cell (World.block_lt_of_cell? w _ hx231_3)).trans hx231_3; replace p231 := eq_true p231; replace q231 := eq_true q231))
 go_ret2
 exact ⟨by first | rfl | (simp [errW_none, errW_some] <;> rfl) | (simp [*, errW_none, errW_some] <;> rfl), pb HB⟩
end Go.Proofs.Ytmfffbafldbihaa.H
