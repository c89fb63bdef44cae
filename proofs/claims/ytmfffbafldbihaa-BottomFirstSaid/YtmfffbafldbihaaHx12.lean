import Derived.Test.YtmfffbafldbihaaHx0
import Derived.Test.YtmfffbafldbihaaHx4
import Derived.Test.YtmfffbafldbihaaHx6
import Derived.Test.YtmfffbafldbihaaHx8
import Derived.Test.YtmfffbafldbihaaHx9
import Derived.Test.YtmfffbafldbihaaHx11
namespace Go.Proofs.Ytmfffbafldbihaa.H
open Go.RowKit Go.Proofs.YtmfffbafldbihaaW.PrintWords Go.Proofs.YtmfffbafldbihaaW.PrintLast Go.Proofs.YtmfffbafldbihaaW.PrintMore Go.Proofs.YtmfffbafldbihaaW.Sq
attribute [local go_sem] max2_int min2_int max_two min_two max_three min_three max_four min_four
set_option linter.unusedVariables false
set_option linter.unusedSimpArgs false

def bottom_Add.f (k : Nat) (a0_0 : Int) (a0_1 : Int) (a0_2 : Int) (l0_3 : List (S62)) (a1 : ByteArray) (a2 : Int) : Option (Int × Int × Int × (List (S62)) × Int) := (bottom_Right.f k a0_0 a0_1 a0_2 l0_3).bind fun t196 => (if t196 = true then (if (a1.size : Int) > 64 then (some (a0_0, a0_1, a0_2, l0_3, 5)) else (if a2 = 0 then (some (a0_0, a0_1, a0_2, l0_3, 7)) else ((sip_Sum.f k a0_0 a0_1 a1).bind fun t197 => ((wide_Of.f a2).bind fun bt198 => ((bottom_add.f k a0_0 a0_1 a0_2 l0_3 a1 t197 bt198.1 bt198.2).bind fun bt200 => (some (bt200.1, bt200.2.1, bt200.2.2.1, bt200.2.2.2.1, bt200.2.2.2.2))))))) else (some (a0_0, a0_1, a0_2, l0_3, 1)))
theorem bottom_Add.mono : ∀ a0 a1 a2 a3 a4 a5 k, LeO (bottom_Add.f k a0 a1 a2 a3 a4 a5) (bottom_Add.f (k + 1) a0 a1 a2 a3 a4 a5) := by
 intro a0 a1 a2 a3 a4 a5 k
 unfold bottom_Add.f
 repeat' first
   | (with_reducible exact bottom_Right.mono _ _ _ _ _)
   | (with_reducible exact bottom_add.mono _ _ _ _ _ _ _ _ _)
   | (with_reducible exact sip_Sum.mono _ _ _ _)
   | (with_reducible exact LeO.refl _)
   | (with_reducible exact LeO.none _)
   | (with_reducible refine LeO.ite ?_ ?_)
   | (with_reducible refine LeO.bind ?_ (fun _ => ?_))
def bottom_Add.T7 : Bool × List (List Nat × List Nat) := (true, [([], []), ([], []), ([], []), ([2], [2]), ([], []), ([3, 4], [3, 4]), ([], []), ([6, 5], [6]), ([1, 5, 7], [1, 5, 7]), ([0, 8, 7], [0, 8]), ([9], [9]), ([9], [9]), ([10, 9, 0, 1, 2, 3, 4, 5, 6, 7, 8, 9, 10, 11], [10]), ([11, 12, 0, 1, 2, 3, 4, 5, 6, 7, 8, 9, 10, 11, 12], [11])])
def bottom_Add.B7 : List Nat := [0, 0, 0, 4, 0, 28, 0, 124, 254, 511, 1023, 1023, 4095, 8191]
theorem bottom_Add.tab7 : rtab .any (opsOf Try.f17 7) = bottom_Add.T7 := by kernel_rfl
theorem bottom_Add.bits7 : waitsOk bottom_Add.T7.2 bottom_Add.B7 = true := by kernel_rfl
set_option maxHeartbeats 8000000 in
set_option maxRecDepth 100000 in
theorem bottom_Add.calls (k : Nat) (ae : Int) (af : Int) (ai : Int) (ar : Nat → Prop) (ak : Option Addr) (an : Nat) (ah : List (S62)) (a1 : ByteArray) (a2 : Int) (r1 : Int) (r2 : Int) (r3 : Int) (r4 : List (S62)) (r5 : Int) (w : World) (aO : Kd.V k62 62 w w.heap.size (fun k_ => ar k_) (.slice ak ah.length an) ah) (h : bottom_Add.f k ae af ai ah a1 a2 = some (r1, r2, r3, r4, r5)) :
  Calls Try.prog 17 #[.agg #[.int .u64 ae, .int .u64 af, .int .i64 ai, .slice ak ah.length an], .string a1, .int .u64 a2] w fun e w' => ∃ aR : Value, e = .returned (.tuple #[.agg #[.int .u64 r1, .int .u64 r2, .int .i64 r3, aR], .int .i64 r5]) ∧ Kd.V k62 62 w' w.heap.size (fun k_ => (ar k_ ∨ w.heap.size ≤ k_)) aR r4 ∧ Below w.heap.size w w' := by
 have hu27 := Try.underlying27;have hu24 := Try.underlying24;have hu62 := Try.underlying62;have ac := am (show Kd.V k62 62 w w.heap.size (fun k_ => (ar k_ ∨ w.heap.size ≤ k_)) (.slice ak ah.length an) ah from Kd.V_mono aO (fun k_ hk => .inl hk));have HB := am (Below.refl w.heap.size w);have H : ((bottom_Right.f k ae af ai ah).bind fun aC => (if aC = true then (if (a1.size : Int) > 64 then (some (ae, af, ai, ah, 5)) else (if a2 = 0 then (some (ae, af, ai, ah, 7)) else ((sip_Sum.f k ae af a1).bind fun aq => ((wide_Of.f a2).bind fun bt198 => ((bottom_add.f k ae af ai ah a1 aq bt198.1 bt198.2).bind fun bt200 => (some (bt200.1, bt200.2.1, bt200.2.2.1, bt200.2.2.2.1, bt200.2.2.2.2))))))) else (some (ae, af, ai, ah, 1)))) = some (r1, r2, r3, r4, r5) := h;clear h;replace H := Option.bind_eq_some_iff.mp H;obtain ⟨aC, aS, H⟩ := H
 try dsimp only at H
 have A4 := am aS;clear aS
 by_cases c5 : aC = true
 rotate_left
 ·replace c5 := Bool.eq_false_iff.mpr c5;subst c5
  have H1 : (some (ae, af, ai, ah, 1)) = some (r1, r2, r3, r4, r5) := by rw [if_neg (show ¬ (false = true) by decide)] at H; exact H
  clear H;have H := H1;clear H1
  simp only [Option.some.injEq, Prod.mk.injEq] at H
  obtain ⟨rfl, rfl, rfl, rfl, rfl⟩ := H
  go_enter Try.func17, Try.ntmps17
  go_wp2_with (first | ((with_reducible refine gate_dst (N := 3) rfl ?_); refine be 3 #[.int .u64 ae, .int .u64 af, .int .i64 ai, .slice ak ah.length an] 27 ?_; intro ap hg cM hbox hb; replace ac := ve ac hg hb; have aa := am (hbox); have ax := gq hg HB; have ay := gq hg HB; replace HB := lb HB hb; clear hb hbox hg) | ((with_reducible refine gate_dst (N := 6) rfl ?_); refine be 6 #[.int .u64 0, .int .u64 0, .int .i64 0, .slice none 0 0] 27 ?_; intro ag hg cN hbox hb; replace ac := ve ac hg hb; have ad := am (hbox); have az := gq hg HB; have aA := gq hg HB; replace HB := lb HB hb; obtain ⟨aj, ao, cv, cw⟩ := pm hg aa; replace aa := kb aa hb; clear hb hbox hg; obtain ⟨aX, aY, aZ, a0, a3, a4, a5, a6⟩ := g4 aa) | ((with_reducible refine gate_callee (f := 21) rfl ?_); refine gl (some 10) Try.func21 #[.agg #[.int .u64 ae, .int .u64 af, .int .i64 ai, .slice ak ah.length an]] ?_; (with_reducible refine (bottom_Right.calls k ae af ai _ _ ah false _ ?side1 ?side2 A4.out).mono ?_); (case side1 => repeat (first | exact (Kd.V_reads' ac.out).2.2 | (with_reducible refine Kd.C_alloc ?_ _) | (with_reducible refine Kd.C_drewN ?_ _) | (with_reducible refine Kd.C_drew ?_))); (case side2 => exact (Kd.V_reads' ac.out).2.1); rintro e cO ⟨rfl, hb⟩; refine ⟨_, rfl, ?_⟩; replace ac := vb ac hb; replace aa := kb aa hb; replace ad := kb ad hb; replace HB := lb HB hb; (try clear hb); (try clear hb2); (try clear hk); (try clear hi); obtain ⟨a7, a8, a9, a_, ba, bb, bc, bd⟩ := g4 aa; obtain ⟨bg, bh, bi, bj, bk, bl, bm, bn⟩ := g4 ad))
  refine bodyPost_ret (results_ct rfl _ _ ag 27 #[.int .u64 ae, .int .u64 af, .int .i64 ai, .slice ak ah.length an] (0, 0) _ rfl (by refine pk ?_; refine blk_put (cs := #[.int .u64 ae, .int .u64 af, .int .i64 ai, .slice none 0 0]) ?_ 3 _ rfl; refine pk ?_; refine blk_put (cs := #[.int .u64 ae, .int .u64 af, .int .i64 0, .slice none 0 0]) ?_ 2 _ rfl; refine pk ?_; refine blk_put (cs := #[.int .u64 ae, .int .u64 0, .int .i64 0, .slice none 0 0]) ?_ 1 _ rfl; refine pk ?_; refine blk_put (cs := #[.int .u64 0, .int .u64 0, .int .i64 0, .slice none 0 0]) ?_ 0 _ rfl; refine pk ?_; exact ad.out) Try.underlying27 rfl (by kernel_rfl)) rfl ?_
  exact ⟨_, by first | rfl | (simp [errW_none, errW_some] <;> rfl) | (simp [*, errW_none, errW_some] <;> rfl), by refine pv ?_; exact Kd.V_mono (Kd.V_far (p := ⟨ag, 3, none⟩) (Kd.V_far (p := ⟨ag, 2, none⟩) (Kd.V_far (p := ⟨ag, 1, none⟩) (Kd.V_far (p := ⟨ag, 0, none⟩) (Kd.V_mono ac.out (fun k_ hk => (⟨hk, hk.2⟩ : _ ∧ k_ ≠ ag))) (fun _ hk => hk.2) (.int .u64 ae)) (fun _ hk => hk.2) (.int .u64 af)) (fun _ hk => hk.2) (.int .i64 ai)) (fun _ hk => hk.2) (.slice ak ah.length an)) (fun _ hk => hk.1.1.1), pb HB⟩
 subst c5
 have H1 : (if (a1.size : Int) > 64 then (some (ae, af, ai, ah, 5)) else (if a2 = 0 then (some (ae, af, ai, ah, 7)) else ((sip_Sum.f k ae af a1).bind fun aq => ((wide_Of.f a2).bind fun bt198 => ((bottom_add.f k ae af ai ah a1 aq bt198.1 bt198.2).bind fun bt200 => (some (bt200.1, bt200.2.1, bt200.2.2.1, bt200.2.2.2.1, bt200.2.2.2.2))))))) = some (r1, r2, r3, r4, r5) := by rw [if_pos rfl] at H; exact H
 clear H;have H := H1;clear H1
 by_cases c6 : (a1.size : Int) > 64
 ·rw [if_pos c6] at H;have aU : decide (64 < (a1.size : Int)) = true := decide_eq_true c6;have aV : decide (64 < a1.size) = true := decide_eq_true (by omega);clear c6
  simp only [Option.some.injEq, Prod.mk.injEq] at H
  obtain ⟨rfl, rfl, rfl, rfl, rfl⟩ := H
  go_enter Try.func17, Try.ntmps17
  go_wp2_with (first | ((with_reducible refine gate_dst (N := 3) rfl ?_); refine be 3 #[.int .u64 ae, .int .u64 af, .int .i64 ai, .slice ak ah.length an] 27 ?_; intro ap hg w7 hbox hb; replace ac := ve ac hg hb; have aa := am (hbox); have ax := gq hg HB; have ay := gq hg HB; replace HB := lb HB hb; clear hb hbox hg) | ((with_reducible refine gate_dst (N := 6) rfl ?_); refine be 6 #[.int .u64 0, .int .u64 0, .int .i64 0, .slice none 0 0] 27 ?_; intro ag hg w8 hbox hb; replace ac := ve ac hg hb; have ad := am (hbox); have az := gq hg HB; have aA := gq hg HB; replace HB := lb HB hb; obtain ⟨aj, ao, cF, cG⟩ := pm hg aa; replace aa := kb aa hb; clear hb hbox hg; obtain ⟨bo, bp, bq, br, bs, bu, bv, bw⟩ := g4 aa) | ((with_reducible refine gate_callee (f := 21) rfl ?_); refine gl (some 10) Try.func21 #[.agg #[.int .u64 ae, .int .u64 af, .int .i64 ai, .slice ak ah.length an]] ?_; (with_reducible refine (bottom_Right.calls k ae af ai _ _ ah true _ ?side1 ?side2 A4.out).mono ?_); (case side1 => repeat (first | exact (Kd.V_reads' ac.out).2.2 | (with_reducible refine Kd.C_alloc ?_ _) | (with_reducible refine Kd.C_drewN ?_ _) | (with_reducible refine Kd.C_drew ?_))); (case side2 => exact (Kd.V_reads' ac.out).2.1); rintro e cP ⟨rfl, hb⟩; refine ⟨_, rfl, ?_⟩; replace ac := vb ac hb; replace aa := kb aa hb; replace ad := kb ad hb; replace HB := lb HB hb; (try clear hb); (try clear hb2); (try clear hk); (try clear hi); obtain ⟨bz, bA, bB, bC, bD, bE, bF, bG⟩ := g4 aa; obtain ⟨bH, bI, bJ, bK, bL, bM, bN, bO⟩ := g4 ad))
  refine bodyPost_ret (results_ct rfl _ _ ag 27 #[.int .u64 ae, .int .u64 af, .int .i64 ai, .slice ak ah.length an] (0, 0) _ rfl (by refine pk ?_; refine blk_put (cs := #[.int .u64 ae, .int .u64 af, .int .i64 ai, .slice none 0 0]) ?_ 3 _ rfl; refine pk ?_; refine blk_put (cs := #[.int .u64 ae, .int .u64 af, .int .i64 0, .slice none 0 0]) ?_ 2 _ rfl; refine pk ?_; refine blk_put (cs := #[.int .u64 ae, .int .u64 0, .int .i64 0, .slice none 0 0]) ?_ 1 _ rfl; refine pk ?_; refine blk_put (cs := #[.int .u64 0, .int .u64 0, .int .i64 0, .slice none 0 0]) ?_ 0 _ rfl; refine pk ?_; exact ad.out) Try.underlying27 rfl (by kernel_rfl)) rfl ?_
  exact ⟨_, by first | rfl | (simp [errW_none, errW_some] <;> rfl) | (simp [*, errW_none, errW_some] <;> rfl), by refine pv ?_; exact Kd.V_mono (Kd.V_far (p := ⟨ag, 3, none⟩) (Kd.V_far (p := ⟨ag, 2, none⟩) (Kd.V_far (p := ⟨ag, 1, none⟩) (Kd.V_far (p := ⟨ag, 0, none⟩) (Kd.V_mono ac.out (fun k_ hk => (⟨hk, hk.2⟩ : _ ∧ k_ ≠ ag))) (fun _ hk => hk.2) (.int .u64 ae)) (fun _ hk => hk.2) (.int .u64 af)) (fun _ hk => hk.2) (.int .i64 ai)) (fun _ hk => hk.2) (.slice ak ah.length an)) (fun _ hk => hk.1.1.1), pb HB⟩
 rw [if_neg c6] at H;have aU : decide (64 < (a1.size : Int)) = false := decide_eq_false c6;have aV : decide (64 < a1.size) = false := decide_eq_false (by omega);clear c6
 by_cases av : a2 = 0
 ·rw [if_pos av] at H;have aP : (a2 == 0) = true := beq_iff_eq.mpr av;have aQ : (a2 != 0) = false := bne_eq_false_iff_eq.mpr av;clear av
  simp only [Option.some.injEq, Prod.mk.injEq] at H
  obtain ⟨rfl, rfl, rfl, rfl, rfl⟩ := H
  go_enter Try.func17, Try.ntmps17
  go_wp2_with (first | ((with_reducible refine gate_dst (N := 3) rfl ?_); refine be 3 #[.int .u64 ae, .int .u64 af, .int .i64 ai, .slice ak ah.length an] 27 ?_; intro ap hg cQ hbox hb; replace ac := ve ac hg hb; have aa := am (hbox); have ax := gq hg HB; have ay := gq hg HB; replace HB := lb HB hb; clear hb hbox hg) | ((with_reducible refine gate_dst (N := 6) rfl ?_); refine be 6 #[.int .u64 0, .int .u64 0, .int .i64 0, .slice none 0 0] 27 ?_; intro ag hg cR hbox hb; replace ac := ve ac hg hb; have ad := am (hbox); have az := gq hg HB; have aA := gq hg HB; replace HB := lb HB hb; obtain ⟨aj, ao, cx, cy⟩ := pm hg aa; replace aa := kb aa hb; clear hb hbox hg; obtain ⟨bP, bQ, bR, bS, bT, bU, bV, bW⟩ := g4 aa) | ((with_reducible refine gate_callee (f := 21) rfl ?_); refine gl (some 10) Try.func21 #[.agg #[.int .u64 ae, .int .u64 af, .int .i64 ai, .slice ak ah.length an]] ?_; (with_reducible refine (bottom_Right.calls k ae af ai _ _ ah true _ ?side1 ?side2 A4.out).mono ?_); (case side1 => repeat (first | exact (Kd.V_reads' ac.out).2.2 | (with_reducible refine Kd.C_alloc ?_ _) | (with_reducible refine Kd.C_drewN ?_ _) | (with_reducible refine Kd.C_drew ?_))); (case side2 => exact (Kd.V_reads' ac.out).2.1); rintro e cS ⟨rfl, hb⟩; refine ⟨_, rfl, ?_⟩; replace ac := vb ac hb; replace aa := kb aa hb; replace ad := kb ad hb; replace HB := lb HB hb; (try clear hb); (try clear hb2); (try clear hk); (try clear hi); obtain ⟨bX, bY, bZ, b0, b1, b2, b3, b4⟩ := g4 aa; obtain ⟨b5, b6, b7, b8, b9, b_, ca, cb⟩ := g4 ad))
  refine bodyPost_ret (results_ct rfl _ _ ag 27 #[.int .u64 ae, .int .u64 af, .int .i64 ai, .slice ak ah.length an] (0, 0) _ rfl (by refine pk ?_; refine blk_put (cs := #[.int .u64 ae, .int .u64 af, .int .i64 ai, .slice none 0 0]) ?_ 3 _ rfl; refine pk ?_; refine blk_put (cs := #[.int .u64 ae, .int .u64 af, .int .i64 0, .slice none 0 0]) ?_ 2 _ rfl; refine pk ?_; refine blk_put (cs := #[.int .u64 ae, .int .u64 0, .int .i64 0, .slice none 0 0]) ?_ 1 _ rfl; refine pk ?_; refine blk_put (cs := #[.int .u64 0, .int .u64 0, .int .i64 0, .slice none 0 0]) ?_ 0 _ rfl; refine pk ?_; exact ad.out) Try.underlying27 rfl (by kernel_rfl)) rfl ?_
  exact ⟨_, by first | rfl | (simp [errW_none, errW_some] <;> rfl) | (simp [*, errW_none, errW_some] <;> rfl), by refine pv ?_; exact Kd.V_mono (Kd.V_far (p := ⟨ag, 3, none⟩) (Kd.V_far (p := ⟨ag, 2, none⟩) (Kd.V_far (p := ⟨ag, 1, none⟩) (Kd.V_far (p := ⟨ag, 0, none⟩) (Kd.V_mono ac.out (fun k_ hk => (⟨hk, hk.2⟩ : _ ∧ k_ ≠ ag))) (fun _ hk => hk.2) (.int .u64 ae)) (fun _ hk => hk.2) (.int .u64 af)) (fun _ hk => hk.2) (.int .i64 ai)) (fun _ hk => hk.2) (.slice ak ah.length an)) (fun _ hk => hk.1.1.1), pb HB⟩
 rw [if_neg av] at H;have aP : (a2 == 0) = false := beq_eq_false_iff_ne.mpr av;have aQ : (a2 != 0) = true := bne_iff_ne.mpr av;replace H := Option.bind_eq_some_iff.mp H;obtain ⟨aq, aI, H⟩ := H
 try dsimp only at H
 have cq := am aI;clear aI;replace H := Option.bind_eq_some_iff.mp H;obtain ⟨⟨aD, aE⟩, aJ, H⟩ := H
 try dsimp only at H
 have cr := am aJ;clear aJ;replace H := Option.bind_eq_some_iff.mp H;obtain ⟨⟨au, aw, aB, aF, aW⟩, aK, H⟩ := H
 try dsimp only at H
 have ct := am aK;clear aK
 simp only [Option.some.injEq, Prod.mk.injEq] at H
 obtain ⟨rfl, rfl, rfl, rfl, rfl⟩ := H
 go_enter Try.func17, Try.ntmps17
 try go_wp2_with (first | ((with_reducible refine gate_dst (N := 3) rfl ?_); refine be 3 #[.int .u64 ae, .int .u64 af, .int .i64 ai, .slice ak ah.length an] 27 ?_; intro ap hg cT hbox hb; replace ac := ve ac hg hb; have aa := am (hbox); have ax := gq hg HB; have ay := gq hg HB; replace HB := lb HB hb; clear hb hbox hg) | ((with_reducible refine gate_dst (N := 6) rfl ?_); refine be 6 #[.int .u64 0, .int .u64 0, .int .i64 0, .slice none 0 0] 27 ?_; intro ag hg cU hbox hb; replace ac := ve ac hg hb; have ad := am (hbox); have az := gq hg HB; have aA := gq hg HB; replace HB := lb HB hb; obtain ⟨aj, ao, cz, cA⟩ := pm hg aa; replace aa := kb aa hb; clear hb hbox hg; obtain ⟨cc, cd, cf, cg, ch, ci, cj, ck⟩ := g4 aa) | ((with_reducible refine gate_callee (f := 21) rfl ?_); refine gl (some 10) Try.func21 #[.agg #[.int .u64 ae, .int .u64 af, .int .i64 ai, .slice ak ah.length an]] ?_; (with_reducible refine (bottom_Right.calls k ae af ai _ _ ah true _ ?side1 ?side2 A4.out).mono ?_); (case side1 => repeat (first | exact (Kd.V_reads' ac.out).2.2 | (with_reducible refine Kd.C_alloc ?_ _) | (with_reducible refine Kd.C_drewN ?_ _) | (with_reducible refine Kd.C_drew ?_))); (case side2 => exact (Kd.V_reads' ac.out).2.1); rintro e cu ⟨rfl, hb⟩; refine ⟨_, rfl, ?_⟩; replace ac := vb ac hb; replace aa := kb aa hb; replace ad := kb ad hb; replace HB := lb HB hb; (try clear hb); (try clear hb2); (try clear hk); (try clear hi)))
 replace ac := am (Kd.V_drew ac.out);replace aa := am (blk_drew aa.out);replace ad := am (blk_drew ad.out);replace HB := am (below_drew1 HB.out)
 refine start_ (n := 14) (S := fun w' => w'.cell? ⟨ap, 0, none⟩ = some (.int .u64 ae) ∧ w'.cell? ⟨ap, 1, none⟩ = some (.int .u64 af) ∧ w'.cell? ⟨ap, 2, none⟩ = some (.int .i64 ai) ∧ w'.cell? ⟨ap, 3, none⟩ = some (.slice ak ah.length an)) (ds := []) #[false, false, false, false, false, false, false, false, false, false, false, false, false, false] (by kernel_rfl) rfl rfl ⟨ce aa 0, ce aa 1, ce aa 2, ce aa 3⟩ (fun hHeld => ?_); refine with_tabW bottom_Add.tab7 bottom_Add.bits7 (fun HT_ HW_ => ?_)
 generalize cu.drew = cV at ac aa ad HB hHeld ⊢
 refine pu 1 ?_
 refine pu 2 ?_
 refine pu 4 ?_
 refine pu 6 ?_
 refine ta 0 hHeld ?_
 refine ta 3 hHeld ?_
 refine on1 5 (fun K hK => ?_)
 refine gs Try.func30 #[.agg #[.int .u64 ae, .int .u64 af], .string a1] ?_
 with_reducible refine (sip_Sum.calls k ae af a1 aq _ cq.out).mono ?_
 rintro e cW ⟨rfl, hb⟩
 refine ⟨_, rfl, ?_⟩
 replace ac := vb ac hb;replace aa := kb aa hb;replace ad := kb ad hb;replace HB := lb HB hb
 (try clear hb)
 (try clear hb2)
 (try clear hk)
 (try clear hi)
 refine hK.out _ _ ⟨ce aa 0, ce aa 1, ce aa 2, ce aa 3⟩ (fun hHeld => ?_)
 clear hK K
 refine nm ?_
 refine on1 7 (fun K hK => ?_)
 refine gs Try.func18 #[.int .u64 a2] ?_
 with_reducible refine (wide_Of.calls a2 aD aE _ cr.out).mono ?_
 rintro e cX ⟨rfl, hb⟩
 refine ⟨_, rfl, ?_⟩
 replace ac := vb ac hb;replace aa := kb aa hb;replace ad := kb ad hb;replace HB := lb HB hb
 (try clear hb)
 (try clear hb2)
 (try clear hk)
 (try clear hi)
 refine hK.out _ _ ⟨ce aa 0, ce aa 1, ce aa 2, ce aa 3⟩ (fun hHeld => ?_)
 clear hK K
 refine nm ?_
 refine pu 8 ?_
 refine on1 9 (fun K hK => ?_)
 refine gs Try.func28 #[.agg #[.int .u64 ae, .int .u64 af, .int .i64 ai, .slice ak ah.length an], .agg #[.string a1, .int .u64 aq, .int .u64 aD, .int .u64 aE]] ?_
 with_reducible refine (bottom_add.calls k ae af ai (fun k_ => (((ar k_ ∨ w.heap.size ≤ k_) ∧ k_ ≠ ap) ∧ k_ ≠ ag)) _ _ ah a1 aq aD aE au aw aB aF aW _ ?side1 ct.out).mono ?_
 (case side1 => exact ac.out)
 rintro e aG ⟨cH, rfl, aT, hb⟩
 refine ⟨_, rfl, ?_⟩
 replace ac := vb ac hb;have aH := am (Kd.V_lower (Kd.V_mono (ok' := fun k_ => (ar k_ ∨ w.heap.size ≤ k_) ∧ k_ ≠ ap ∧ k_ ≠ ag) aT (fun k_ hk_ => ⟨Or.elim hk_ (fun hs_ => hs_.1.1) (fun hn_ => (.inr (Nat.le_trans (below_size (pb HB)) hn_))), Or.elim hk_ (fun hs_ => hs_.1.2) (fun hn_ => (nb aa k_ hn_)), Or.elim hk_ (fun hs_ => hs_.2) (fun hn_ => (nb ad k_ hn_))⟩)) (below_size (pb HB)));replace aa := kb aa hb;replace ad := kb ad hb;replace HB := lb HB hb
 (try clear hb)
 (try clear hb2)
 (try clear hk)
 (try clear hi)
 (try clear aT)
 obtain ⟨aL, aM, aN⟩ := Kd.V_slice aH.out
 (first | subst aN | (injection aN with f1_ f2_ f3_; have f4_ := f1_.symm; have f5_ := f3_.symm; clear f1_ f2_ f3_; subst f4_; subst f5_))
 refine hK.out _ _ ⟨ce aa 0, ce aa 1, ce aa 2, ce aa 3⟩ (fun hHeld => ?_)
 clear hK K
 refine nm ?_
 refine pu 10 ?_
 refine pu 11 ?_
 refine one_ (i := 12) (N := none) #[true, true, true, true, true, true, true, true, true, true, true, true, true, false] rfl rfl (one_of HT_.out (by kernel_rfl)) (by decide) (fun K hK => ?_)
 have cI : aG.cell? ⟨ag, 0, none⟩ = some (.int .u64 0) := ce ad 0;have cB := blk_frozen ad.out 0;have cl := aj.out;have hms34_0 := ao.out;have cJ : aG.cell? ⟨ag, 1, none⟩ = some (.int .u64 0) := ce ad 1;have cC := blk_frozen ad.out 1;have cm := aj.out;have hms35_0 := ao.out;have cK : aG.cell? ⟨ag, 2, none⟩ = some (.int .i64 0) := ce ad 2;have cD := blk_frozen ad.out 2;have cn := aj.out;have hms36_0 := ao.out;have cL : aG.cell? ⟨ag, 3, none⟩ = some (.slice none 0 0) := ce ad 3;have cE := blk_frozen ad.out 3;have cp := aj.out;have hms38_0 := ao.out
 refine skip_ (w1 := ?_) (by rfl) rfl ?_ ?_
 rotate_left
 ·go_simp
  rfl
 refine hK.out _ _ ⟨(q4 aj.out hHeld.1), (q4 aj.out hHeld.2.1), (q4 aj.out hHeld.2.2.1), (q4 aj.out hHeld.2.2.2)⟩ (fun hHeld => ?_)
 clear hK K
 refine pu 13 ?_
 refine done_ (done_of HT_.out (by kernel_rfl)) ?_
 try go_wp2
 refine bodyPost_ret (results_ct rfl _ _ ag 27 #[.int .u64 au, .int .u64 aw, .int .i64 aB, .slice aL aF.length aM] (0, 0) _ rfl (by refine pk ?_; refine blk_put (cs := #[.int .u64 au, .int .u64 aw, .int .i64 aB, .slice none 0 0]) ?_ 3 _ rfl; refine pk ?_; refine blk_put (cs := #[.int .u64 au, .int .u64 aw, .int .i64 0, .slice none 0 0]) ?_ 2 _ rfl; refine pk ?_; refine blk_put (cs := #[.int .u64 au, .int .u64 0, .int .i64 0, .slice none 0 0]) ?_ 1 _ rfl; refine pk ?_; refine blk_put (cs := #[.int .u64 0, .int .u64 0, .int .i64 0, .slice none 0 0]) ?_ 0 _ rfl; refine pk ?_; exact ad.out) Try.underlying27 rfl (by kernel_rfl)) rfl ?_
 exact ⟨_, by first | rfl | (simp [errW_none, errW_some] <;> rfl) | (simp [*, errW_none, errW_some] <;> rfl), by refine pv ?_; exact Kd.V_mono (Kd.V_far (p := ⟨ag, 3, none⟩) (Kd.V_far (p := ⟨ag, 2, none⟩) (Kd.V_far (p := ⟨ag, 1, none⟩) (Kd.V_far (p := ⟨ag, 0, none⟩) (Kd.V_mono aH.out (fun k_ hk => (⟨hk, hk.2.2⟩ : _ ∧ k_ ≠ ag))) (fun _ hk => hk.2) (.int .u64 au)) (fun _ hk => hk.2) (.int .u64 aw)) (fun _ hk => hk.2) (.int .i64 aB)) (fun _ hk => hk.2) (.slice aL aF.length aM)) (fun _ hk => hk.1.1), pb HB⟩
def bottom_Cut.f (k : Nat) (a0_0 : Int) (a0_1 : Int) (a0_2 : Int) (l0_3 : List (S62)) (a1 : Int) : Option (Int × Int × Int × (List (S62)) × Int) := (bottom_Right.f k a0_0 a0_1 a0_2 l0_3).bind fun t209 => (if t209 = true then (if a1 < 1 then (some (0, 0, 0, ([] : List (S62)), 1)) else (if a1 > a0_2 then (some (0, 0, 0, ([] : List (S62)), 1)) else (if 0 ≤ (mn (l0_3.length : Int) (wrap64 (a1 + 1))) then (if (mn (l0_3.length : Int) (wrap64 (a1 + 1))) ≤ (l0_3.length : Int) then ((bottom_Entry_32.f (l0_3.take ((mn (l0_3.length : Int) (wrap64 (a1 + 1))) : Int).toNat)).bind fun t214 => (some (a0_0, a0_1, a1, t214, 0))) else (none)) else (none)))) else (some (0, 0, 0, ([] : List (S62)), 1)))
theorem bottom_Cut.mono : ∀ a0 a1 a2 a3 a4 k, LeO (bottom_Cut.f k a0 a1 a2 a3 a4) (bottom_Cut.f (k + 1) a0 a1 a2 a3 a4) := by
 intro a0 a1 a2 a3 a4 k
 unfold bottom_Cut.f
 repeat' first
   | (with_reducible exact bottom_Right.mono _ _ _ _ _)
   | (with_reducible exact LeO.refl _)
   | (with_reducible exact LeO.none _)
   | (with_reducible refine LeO.ite ?_ ?_)
   | (with_reducible refine LeO.bind ?_ (fun _ => ?_))
def bottom_Cut.T3 : Bool × List (List Nat × List Nat) := (true, [([], []), ([0], [0]), ([], []), ([], []), ([3], [3]), ([], []), ([5], [5]), ([6], [6]), ([], []), ([8], [8]), ([7, 9], [7, 9]), ([4, 10], [4, 10]), ([11], [11]), ([1, 2, 12], [1, 2, 12]), ([13, 12, 0, 1, 2, 3, 4, 5, 6, 7, 8, 9, 10, 11, 12, 13], [13]), ([14, 0, 1, 2, 3, 4, 5, 6, 7, 8, 9, 10, 11, 12, 13, 14], [])])
def bottom_Cut.B3 : List Nat := [0, 1, 0, 0, 8, 0, 32, 96, 0, 256, 992, 2040, 4088, 8191, 16383, 32767]
theorem bottom_Cut.tab3 : rtab .any (opsOf Try.f20 3) = bottom_Cut.T3 := by kernel_rfl
theorem bottom_Cut.bits3 : waitsOk bottom_Cut.T3.2 bottom_Cut.B3 = true := by kernel_rfl
set_option maxHeartbeats 8000000 in
set_option maxRecDepth 100000 in
theorem bottom_Cut.calls (k : Nat) (af : Int) (ag : Int) (ah : Int) (an : Option Addr) (ak : Nat) (ac : List (S62)) (a1 : Int) (r1 : Int) (r2 : Int) (r3 : Int) (r4 : List (S62)) (r5 : Int) (w : World) (aF : Kd.C k62 w an ac.length ac) (aG : ac.length ≤ ak) (h : bottom_Cut.f k af ag ah ac a1 = some (r1, r2, r3, r4, r5)) :
  Calls Try.prog 20 #[.agg #[.int .u64 af, .int .u64 ag, .int .i64 ah, .slice an ac.length ak], .int .i64 a1] w fun e w' => ∃ aS : Value, e = .returned (.tuple #[.agg #[.int .u64 r1, .int .u64 r2, .int .i64 r3, aS], .int .i64 r5]) ∧ Kd.V k62 62 w' w.heap.size (fun k_ => (w.heap.size ≤ k_)) aS r4 ∧ Below w.heap.size w w' := by
 have hu27 := Try.underlying27;have hu24 := Try.underlying24;have ar := am aF;have au := am aG;clear aF aG;have HB := am (Below.refl w.heap.size w);have H : ((bottom_Right.f k af ag ah ac).bind fun aD => (if aD = true then (if a1 < 1 then (some (0, 0, 0, ([] : List (S62)), 1)) else (if a1 > ah then (some (0, 0, 0, ([] : List (S62)), 1)) else (if 0 ≤ (mn (ac.length : Int) (wrap64 (a1 + 1))) then (if (mn (ac.length : Int) (wrap64 (a1 + 1))) ≤ (ac.length : Int) then ((bottom_Entry_32.f (ac.take ((mn (ac.length : Int) (wrap64 (a1 + 1))) : Int).toNat)).bind fun ap => (some (af, ag, a1, ap, 0))) else (none)) else (none)))) else (some (0, 0, 0, ([] : List (S62)), 1)))) = some (r1, r2, r3, r4, r5) := h;clear h;replace H := Option.bind_eq_some_iff.mp H;obtain ⟨aD, aT, H⟩ := H
 try dsimp only at H
 have A3 := am aT;clear aT
 by_cases c4 : aD = true
 rotate_left
 ·replace c4 := Bool.eq_false_iff.mpr c4;subst c4
  have H1 : (some (0, 0, 0, ([] : List (S62)), 1)) = some (r1, r2, r3, r4, r5) := by rw [if_neg (show ¬ (false = true) by decide)] at H; exact H
  clear H;have H := H1;clear H1
  simp only [Option.some.injEq, Prod.mk.injEq] at H
  obtain ⟨rfl, rfl, rfl, rfl, rfl⟩ := H
  go_enter Try.func20, Try.ntmps20
  go_wp2_with (first | ((with_reducible refine gate_dst (N := 2) rfl ?_); refine be 2 #[.int .u64 af, .int .u64 ag, .int .i64 ah, .slice an ac.length ak] 27 ?_; intro aq hg cE hbox hb; have aa := am (hbox); have ax := gq hg HB; have ay := gq hg HB; replace HB := lb HB hb; clear hb hbox hg) | ((with_reducible refine gate_dst (N := 4) rfl ?_); refine be 4 #[.int .u64 0, .int .u64 0, .int .i64 0, .slice none 0 0] 27 ?_; intro ai hg cF hbox hb; have ad := am (hbox); have az := gq hg HB; have aA := gq hg HB; replace HB := lb HB hb; obtain ⟨ae, aj, ch, ci⟩ := pm hg aa; replace aa := kb aa hb; clear hb hbox hg; obtain ⟨aW, aX, aY, aZ, a0, a2, a3, a4⟩ := g4 aa) | ((with_reducible refine gate_callee (f := 21) rfl ?_); refine gl (some 7) Try.func21 #[.agg #[.int .u64 af, .int .u64 ag, .int .i64 ah, .slice an ac.length ak]] ?_; (with_reducible refine (bottom_Right.calls k af ag ah _ _ ac false _ ?side1 ?side2 A3.out).mono ?_); (case side1 => repeat (first | exact (Kd.C_below ar.out HB.out) | (with_reducible refine Kd.C_alloc ?_ _) | (with_reducible refine Kd.C_drewN ?_ _) | (with_reducible refine Kd.C_drew ?_))); (case side2 => exact au.out); rintro e cG ⟨rfl, hb⟩; refine ⟨_, rfl, ?_⟩; replace aa := kb aa hb; replace ad := kb ad hb; replace HB := lb HB hb; (try clear hb); (try clear hb2); (try clear hk); (try clear hi); obtain ⟨a5, a6, a7, a8, a9, a_, ba, bb⟩ := g4 ad))
  refine bodyPost_ret (results_ct rfl _ _ ai 27 #[.int .u64 0, .int .u64 0, .int .i64 0, .slice none 0 0] (0, 0) _ rfl (by refine pk ?_; refine blk_put (cs := #[.int .u64 0, .int .u64 0, .int .i64 0, .slice none 0 0]) ?_ 3 _ rfl; refine pk ?_; refine blk_put (cs := #[.int .u64 0, .int .u64 0, .int .i64 0, .slice none 0 0]) ?_ 2 _ rfl; refine pk ?_; refine blk_put (cs := #[.int .u64 0, .int .u64 0, .int .i64 0, .slice none 0 0]) ?_ 1 _ rfl; refine pk ?_; refine blk_put (cs := #[.int .u64 0, .int .u64 0, .int .i64 0, .slice none 0 0]) ?_ 0 _ rfl; refine pk ?_; exact ad.out) Try.underlying27 rfl (by kernel_rfl)) rfl ?_
  exact ⟨_, by first | rfl | (simp [errW_none, errW_some] <;> rfl) | (simp [*, errW_none, errW_some] <;> rfl), Kd.V_nil _ _ _ _ _, pb HB⟩
 subst c4
 have H1 : (if a1 < 1 then (some (0, 0, 0, ([] : List (S62)), 1)) else (if a1 > ah then (some (0, 0, 0, ([] : List (S62)), 1)) else (if 0 ≤ (mn (ac.length : Int) (wrap64 (a1 + 1))) then (if (mn (ac.length : Int) (wrap64 (a1 + 1))) ≤ (ac.length : Int) then ((bottom_Entry_32.f (ac.take ((mn (ac.length : Int) (wrap64 (a1 + 1))) : Int).toNat)).bind fun ap => (some (af, ag, a1, ap, 0))) else (none)) else (none)))) = some (r1, r2, r3, r4, r5) := by rw [if_pos rfl] at H; exact H
 clear H;have H := H1;clear H1
 by_cases c5 : a1 < 1
 ·rw [if_pos c5] at H;have aV : decide (a1 < 1) = true := decide_eq_true c5;clear c5
  simp only [Option.some.injEq, Prod.mk.injEq] at H
  obtain ⟨rfl, rfl, rfl, rfl, rfl⟩ := H
  go_enter Try.func20, Try.ntmps20
  go_wp2_with (first | ((with_reducible refine gate_dst (N := 2) rfl ?_); refine be 2 #[.int .u64 af, .int .u64 ag, .int .i64 ah, .slice an ac.length ak] 27 ?_; intro aq hg w6 hbox hb; have aa := am (hbox); have ax := gq hg HB; have ay := gq hg HB; replace HB := lb HB hb; clear hb hbox hg) | ((with_reducible refine gate_dst (N := 4) rfl ?_); refine be 4 #[.int .u64 0, .int .u64 0, .int .i64 0, .slice none 0 0] 27 ?_; intro ai hg w7 hbox hb; have ad := am (hbox); have az := gq hg HB; have aA := gq hg HB; replace HB := lb HB hb; obtain ⟨ae, aj, cx, cy⟩ := pm hg aa; replace aa := kb aa hb; clear hb hbox hg; obtain ⟨b7, b8, b9, b_, ca, cb, cc, cd⟩ := g4 aa) | ((with_reducible refine gate_callee (f := 21) rfl ?_); refine gl (some 7) Try.func21 #[.agg #[.int .u64 af, .int .u64 ag, .int .i64 ah, .slice an ac.length ak]] ?_; (with_reducible refine (bottom_Right.calls k af ag ah _ _ ac true _ ?side1 ?side2 A3.out).mono ?_); (case side1 => repeat (first | exact (Kd.C_below ar.out HB.out) | (with_reducible refine Kd.C_alloc ?_ _) | (with_reducible refine Kd.C_drewN ?_ _) | (with_reducible refine Kd.C_drew ?_))); (case side2 => exact au.out); rintro e cH ⟨rfl, hb⟩; refine ⟨_, rfl, ?_⟩; replace aa := kb aa hb; replace ad := kb ad hb; replace HB := lb HB hb; (try clear hb); (try clear hb2); (try clear hk); (try clear hi); obtain ⟨bc, bd, bg, bh, bi, bj, bk, bl⟩ := g4 ad))
  refine bodyPost_ret (results_ct rfl _ _ ai 27 #[.int .u64 0, .int .u64 0, .int .i64 0, .slice none 0 0] (0, 0) _ rfl (by refine pk ?_; refine blk_put (cs := #[.int .u64 0, .int .u64 0, .int .i64 0, .slice none 0 0]) ?_ 3 _ rfl; refine pk ?_; refine blk_put (cs := #[.int .u64 0, .int .u64 0, .int .i64 0, .slice none 0 0]) ?_ 2 _ rfl; refine pk ?_; refine blk_put (cs := #[.int .u64 0, .int .u64 0, .int .i64 0, .slice none 0 0]) ?_ 1 _ rfl; refine pk ?_; refine blk_put (cs := #[.int .u64 0, .int .u64 0, .int .i64 0, .slice none 0 0]) ?_ 0 _ rfl; refine pk ?_; exact ad.out) Try.underlying27 rfl (by kernel_rfl)) rfl ?_
  exact ⟨_, by first | rfl | (simp [errW_none, errW_some] <;> rfl) | (simp [*, errW_none, errW_some] <;> rfl), Kd.V_nil _ _ _ _ _, pb HB⟩
 rw [if_neg c5] at H;have aV : decide (a1 < 1) = false := decide_eq_false c5;clear c5
 by_cases aw : a1 > ah
 ·rw [if_pos aw] at H;have aQ : decide (ah < a1) = true := decide_eq_true aw;clear aw
  simp only [Option.some.injEq, Prod.mk.injEq] at H
  obtain ⟨rfl, rfl, rfl, rfl, rfl⟩ := H
  go_enter Try.func20, Try.ntmps20
  go_wp2_with (first | ((with_reducible refine gate_dst (N := 2) rfl ?_); refine be 2 #[.int .u64 af, .int .u64 ag, .int .i64 ah, .slice an ac.length ak] 27 ?_; intro aq hg cI hbox hb; have aa := am (hbox); have ax := gq hg HB; have ay := gq hg HB; replace HB := lb HB hb; clear hb hbox hg) | ((with_reducible refine gate_dst (N := 4) rfl ?_); refine be 4 #[.int .u64 0, .int .u64 0, .int .i64 0, .slice none 0 0] 27 ?_; intro ai hg cJ hbox hb; have ad := am (hbox); have az := gq hg HB; have aA := gq hg HB; replace HB := lb HB hb; obtain ⟨ae, aj, cj, ck⟩ := pm hg aa; replace aa := kb aa hb; clear hb hbox hg; obtain ⟨bm, bn, bo, bp, bq, br, bs, bu⟩ := g4 aa) | ((with_reducible refine gate_callee (f := 21) rfl ?_); refine gl (some 7) Try.func21 #[.agg #[.int .u64 af, .int .u64 ag, .int .i64 ah, .slice an ac.length ak]] ?_; (with_reducible refine (bottom_Right.calls k af ag ah _ _ ac true _ ?side1 ?side2 A3.out).mono ?_); (case side1 => repeat (first | exact (Kd.C_below ar.out HB.out) | (with_reducible refine Kd.C_alloc ?_ _) | (with_reducible refine Kd.C_drewN ?_ _) | (with_reducible refine Kd.C_drew ?_))); (case side2 => exact au.out); rintro e cK ⟨rfl, hb⟩; refine ⟨_, rfl, ?_⟩; replace aa := kb aa hb; replace ad := kb ad hb; replace HB := lb HB hb; (try clear hb); (try clear hb2); (try clear hk); (try clear hi); obtain ⟨bv, bw, bz, bA, bB, bC, bD, bE⟩ := g4 aa; obtain ⟨bF, bG, bH, bI, bJ, bK, bL, bM⟩ := g4 ad))
  refine bodyPost_ret (results_ct rfl _ _ ai 27 #[.int .u64 0, .int .u64 0, .int .i64 0, .slice none 0 0] (0, 0) _ rfl (by refine pk ?_; refine blk_put (cs := #[.int .u64 0, .int .u64 0, .int .i64 0, .slice none 0 0]) ?_ 3 _ rfl; refine pk ?_; refine blk_put (cs := #[.int .u64 0, .int .u64 0, .int .i64 0, .slice none 0 0]) ?_ 2 _ rfl; refine pk ?_; refine blk_put (cs := #[.int .u64 0, .int .u64 0, .int .i64 0, .slice none 0 0]) ?_ 1 _ rfl; refine pk ?_; refine blk_put (cs := #[.int .u64 0, .int .u64 0, .int .i64 0, .slice none 0 0]) ?_ 0 _ rfl; refine pk ?_; exact ad.out) Try.underlying27 rfl (by kernel_rfl)) rfl ?_
  exact ⟨_, by first | rfl | (simp [errW_none, errW_some] <;> rfl) | (simp [*, errW_none, errW_some] <;> rfl), Kd.V_nil _ _ _ _ _, pb HB⟩
 rw [if_neg aw] at H;have aQ : decide (ah < a1) = false := decide_eq_false aw;clear aw;obtain ⟨ao, hji20⟩ : ∃ j_ : Int, (mn (ac.length : Int) (wrap64 (a1 + 1))) = j_ := ⟨_, rfl⟩
 replace H : (if 0 ≤ (ao) then (if (ao) ≤ (ac.length : Int) then ((bottom_Entry_32.f (ac.take ((ao) : Int).toNat)).bind fun ap => (some (af, ag, a1, ap, 0))) else (none)) else (none)) = some (r1, r2, r3, r4, r5) := by first | (rw [hji20] at H; exact H) | (simp only [hji20] at H ⊢; exact H)
 (try rw [hji20] at A3)
 have hji20_ : (if (wrap64 (a1 + 1)) < (ac.length : Int) then (wrap64 (a1 + 1)) else (ac.length : Int)) = ao := hji20
 by_cases aB : 0 ≤ (ao)
 rotate_left
 ·rw [if_neg aB] at H;exact absurd H (by simp)
 rw [if_pos aB] at H;have cl := eq_true aB;have cm : decide (0 ≤ (ao)) = true := decide_eq_true aB;clear aB
 by_cases aC : (ao) ≤ (ac.length : Int)
 rotate_left
 ·rw [if_neg aC] at H;exact absurd H (by simp)
 rw [if_pos aC] at H;have cn := eq_true aC;have cp : decide ((ao) ≤ (ac.length : Int)) = true := decide_eq_true aC;clear aC;obtain ⟨av, hy210⟩ : ∃ y_ : List (S62), y_ = (ac.take ((ao) : Int).toNat) := ⟨_, rfl⟩
 replace H : ((bottom_Entry_32.f av).bind fun ap => (some (af, ag, a1, ap, 0))) = some (r1, r2, r3, r4, r5) := by first | (rw [hy210]; with_reducible exact H) | (have H2_ := (Option.bind_some _ _).symm.trans H; rw [hy210]; with_reducible exact H2_) | (have H2_ := (Option.bind_some _ _).symm.trans H; with_reducible exact H2_) | with_reducible exact H | (rw [hy210]; exact H) | exact H
 have Ny210 := am hy210;clear hy210;replace H := Option.bind_eq_some_iff.mp H;obtain ⟨ap, aL, H⟩ := H
 try dsimp only at H
 have cf := am aL;clear aL
 simp only [Option.some.injEq, Prod.mk.injEq] at H
 obtain ⟨rfl, rfl, rfl, rfl, rfl⟩ := H
 go_enter Try.func20, Try.ntmps20
 try go_wp2_with (first | ((with_reducible refine gate_dst (N := 2) rfl ?_); refine be 2 #[.int .u64 af, .int .u64 ag, .int .i64 ah, .slice an ac.length ak] 27 ?_; intro aq hg cL hbox hb; have aa := am (hbox); have ax := gq hg HB; have ay := gq hg HB; replace HB := lb HB hb; clear hb hbox hg) | ((with_reducible refine gate_dst (N := 4) rfl ?_); refine be 4 #[.int .u64 0, .int .u64 0, .int .i64 0, .slice none 0 0] 27 ?_; intro ai hg cM hbox hb; have ad := am (hbox); have az := gq hg HB; have aA := gq hg HB; replace HB := lb HB hb; obtain ⟨ae, aj, cq, cr⟩ := pm hg aa; replace aa := kb aa hb; clear hb hbox hg; obtain ⟨bN, bO, bP, bQ, bR, bS, bT, bU⟩ := g4 aa) | ((with_reducible refine gate_callee (f := 21) rfl ?_); refine gl (some 7) Try.func21 #[.agg #[.int .u64 af, .int .u64 ag, .int .i64 ah, .slice an ac.length ak]] ?_; (with_reducible refine (bottom_Right.calls k af ag ah _ _ ac true _ ?side1 ?side2 A3.out).mono ?_); (case side1 => repeat (first | exact (Kd.C_below ar.out HB.out) | (with_reducible refine Kd.C_alloc ?_ _) | (with_reducible refine Kd.C_drewN ?_ _) | (with_reducible refine Kd.C_drew ?_))); (case side2 => exact au.out); rintro e cg ⟨rfl, hb⟩; refine ⟨_, rfl, ?_⟩; replace aa := kb aa hb; replace ad := kb ad hb; replace HB := lb HB hb; (try clear hb); (try clear hb2); (try clear hk); (try clear hi); obtain ⟨bV, bW, bX, bY, bZ, b0, b1, b2⟩ := g4 aa))
 replace aa := am (blk_drew aa.out);replace ad := am (blk_drew ad.out);replace HB := am (below_drew1 HB.out);have aM : ((ao) : Int) ≤ ((ac.length : Int) : Int) := of_decide_eq_true (by first | (with_reducible assumption) | assumption);obtain ⟨i031, aH, _, hsz31, _⟩ := info_parts info62;have hroom31 : ac.length ≤ ak := au.out;have hC31 : Kd.C k62 _ an ac.length ac := ar.out;have hcut31 := cut_to (P := Try.prog) 25 62 .i64 Try.underlying25 aH an ac.length ak (ao) (of_decide_eq_true (by first | (with_reducible assumption) | assumption)) aM hroom31;have aE := Kd.C_take (m := ((ao) : Int).toNat) hC31 (by omega);have hy31 : av.length = ((ao) : Int).toNat := (by rw [Ny210.out, List.length_take]; omega);rw [← Ny210.out] at aE;rw [← hy31] at hcut31;have aI := am aE;have aR := am (show av.length ≤ ak from by omega);clear aE hC31 hroom31 aH hsz31;have KY31 := am hy31;clear hy31;replace aM := eq_true aM
 refine start_ (n := 16) (S := fun w' => w'.cell? ⟨aq, 0, none⟩ = some (.int .u64 af) ∧ w'.cell? ⟨aq, 1, none⟩ = some (.int .u64 ag) ∧ w'.cell? ⟨aq, 2, none⟩ = some (.int .i64 ah) ∧ w'.cell? ⟨aq, 3, none⟩ = some (.slice an ac.length ak)) (ds := []) #[false, false, false, false, false, false, false, false, false, false, false, false, false, false, false, false] (by kernel_rfl) rfl rfl ⟨ce aa 0, ce aa 1, ce aa 2, ce aa 3⟩ (fun hHeld => ?_); refine with_tabW bottom_Cut.tab3 bottom_Cut.bits3 (fun HT_ HW_ => ?_)
 generalize cg.drew = cN at aa ad HB aI hHeld ⊢
 refine pu 0 ?_
 refine pu 2 ?_
 refine pu 3 ?_
 refine pu 5 ?_
 refine pu 8 ?_
 refine pu 9 ?_
 refine ta 1 hHeld ?_
 refine ta 4 hHeld ?_
 refine ta 6 hHeld ?_
 refine pu 7 ?_
 refine pu 10 ?_
 refine pu 11 ?_
 refine on1 12 (fun K hK => ?_)
 refine gs Try.func32 #[.slice an av.length ak] ?_
 with_reducible refine (bottom_Entry_32.calls _ _ av ap _ ?side1 ?side2 cf.out).mono ?_
 (case side1 => repeat (first | exact (Kd.C_below aI.out HB.out) | (with_reducible refine Kd.C_alloc ?_ _) | (with_reducible refine Kd.C_drewN ?_ _) | (with_reducible refine Kd.C_drew ?_)))
 (case side2 => exact aR.out)
 rintro e aJ ⟨cz, rfl, aU, hb⟩
 refine ⟨_, rfl, ?_⟩
 have aK := am (Kd.R_lower (Kd.R_newM (M := fun k_ => (w.heap.size ≤ k_)) aU (below_size (pb HB)) (fun k_ h_ => h_)) (below_size (pb HB)));replace aa := kb aa hb;replace ad := kb ad hb;replace HB := lb HB hb
 (try clear hb)
 (try clear hb2)
 (try clear hk)
 (try clear hi)
 (try clear aU)
 obtain ⟨aN, aO, aP⟩ := Kd.R_slice aK.out
 (first | subst aP | (injection aP with f1_ f2_ f3_; have f4_ := f1_.symm; have f5_ := f3_.symm; clear f1_ f2_ f3_; subst f4_; subst f5_))
 refine hK.out _ _ ⟨ce aa 0, ce aa 1, ce aa 2, ce aa 3⟩ (fun hHeld => ?_)
 clear hK K
 refine nm ?_
 refine pu 13 ?_
 refine one_ (i := 14) (N := none) #[true, true, true, true, true, true, true, true, true, true, true, true, true, true, true, false] rfl rfl (one_of HT_.out (by kernel_rfl)) (by decide) (fun K hK => ?_)
 have cA : aJ.cell? ⟨ai, 0, none⟩ = some (.int .u64 0) := ce ad 0;have ct := blk_frozen ad.out 0;have b3 := ae.out;have hms34_0 := aj.out;have cB : aJ.cell? ⟨ai, 1, none⟩ = some (.int .u64 0) := ce ad 1;have cu := blk_frozen ad.out 1;have b4 := ae.out;have hms35_0 := aj.out;have cC : aJ.cell? ⟨ai, 2, none⟩ = some (.int .i64 0) := ce ad 2;have cv := blk_frozen ad.out 2;have b5 := ae.out;have hms36_0 := aj.out;have cD : aJ.cell? ⟨ai, 3, none⟩ = some (.slice none 0 0) := ce ad 3;have cw := blk_frozen ad.out 3;have b6 := ae.out;have hms37_0 := aj.out
 refine skip_ (w1 := ?_) (by rfl) rfl ?_ ?_
 rotate_left
 ·go_simp
  rfl
 refine hK.out _ _ ⟨(q4 ae.out hHeld.1), (q4 ae.out hHeld.2.1), (q4 ae.out hHeld.2.2.1), (q4 ae.out hHeld.2.2.2)⟩ (fun hHeld => ?_)
 clear hK K
 refine pu 15 ?_
 refine done_ (done_of HT_.out (by kernel_rfl)) ?_
 try go_wp2
 refine bodyPost_ret (results_ct rfl _ _ ai 27 #[.int .u64 af, .int .u64 ag, .int .i64 a1, .slice aN ap.length aO] (0, 0) _ rfl (by refine pk ?_; refine blk_put (cs := #[.int .u64 af, .int .u64 ag, .int .i64 a1, .slice none 0 0]) ?_ 3 _ rfl; refine pk ?_; refine blk_put (cs := #[.int .u64 af, .int .u64 ag, .int .i64 0, .slice none 0 0]) ?_ 2 _ rfl; refine pk ?_; refine blk_put (cs := #[.int .u64 af, .int .u64 0, .int .i64 0, .slice none 0 0]) ?_ 1 _ rfl; refine pk ?_; refine blk_put (cs := #[.int .u64 0, .int .u64 0, .int .i64 0, .slice none 0 0]) ?_ 0 _ rfl; refine pk ?_; exact ad.out) Try.underlying27 rfl (by kernel_rfl)) rfl ?_
 exact ⟨_, by first | rfl | (simp [errW_none, errW_some] <;> rfl) | (simp only [← hji20]; first | rfl | (simp [errW_none, errW_some] <;> rfl)) | (simp [*, errW_none, errW_some] <;> rfl), Kd.R_V (pr (Kd.R_mono (Kd.R_far (p := ⟨ai, 3, none⟩) (Kd.R_far (p := ⟨ai, 2, none⟩) (Kd.R_far (p := ⟨ai, 1, none⟩) (Kd.R_far (p := ⟨ai, 0, none⟩) (Kd.R_types aK.out ad.out (by decide)) (fun _ hk => hk.2) (.int .u64 af)) (fun _ hk => hk.2) (.int .u64 ag)) (fun _ hk => hk.2) (.int .i64 a1)) (fun _ hk => hk.2) (.slice aN ap.length aO)) (fun _ hk => hk.1.1))), pb HB⟩
def bottom_Threshold.f (k : Nat) (a0_0 : Int) (a0_1 : Int) (a0_2 : Int) (l0_3 : List (S62)) : Option (Int × Bool) := (bottom_Right.f k a0_0 a0_1 a0_2 l0_3).bind fun t218 => (if t218 = true then (if (l0_3.length : Int) ≤ a0_2 then (some (0, false)) else (if 0 ≤ a0_2 then (if a0_2 < (l0_3.length : Int) then (some ((rd_T62 l0_3 a0_2).f1, true)) else (none)) else (none))) else (some (0, false)))
theorem bottom_Threshold.mono : ∀ a0 a1 a2 a3 k, LeO (bottom_Threshold.f k a0 a1 a2 a3) (bottom_Threshold.f (k + 1) a0 a1 a2 a3) := by
 intro a0 a1 a2 a3 k
 unfold bottom_Threshold.f
 repeat' first
   | (with_reducible exact bottom_Right.mono _ _ _ _ _)
   | (with_reducible exact LeO.refl _)
   | (with_reducible exact LeO.none _)
   | (with_reducible refine LeO.ite ?_ ?_)
   | (with_reducible refine LeO.bind ?_ (fun _ => ?_))
set_option maxHeartbeats 8000000 in
set_option maxRecDepth 100000 in
theorem bottom_Threshold.calls (k : Nat) (ae : Int) (af : Int) (aa : Int) (ag : Option Addr) (ah : Nat) (ac : List (S62)) (r1 : Int) (r2 : Bool) (w : World) (av : Kd.C k62 w ag ac.length ac) (aw : ac.length ≤ ah) (h : bottom_Threshold.f k ae af aa ac = some (r1, r2)) :
  Calls Try.prog 25 #[.agg #[.int .u64 ae, .int .u64 af, .int .i64 aa, .slice ag ac.length ah]] w fun e w' => e = .returned (.tuple #[.int .u64 r1, .bool r2]) ∧ Below w.heap.size w w' := by
 have hu27 := Try.underlying27;have ao := am av;have ap := am aw;clear av aw;have HB := am (Below.refl w.heap.size w);have H : ((bottom_Right.f k ae af aa ac).bind fun aq => (if aq = true then (if (ac.length : Int) ≤ aa then (some (0, false)) else (if 0 ≤ aa then (if aa < (ac.length : Int) then (some ((rd_T62 ac aa).f1, true)) else (none)) else (none))) else (some (0, false)))) = some (r1, r2) := h;clear h;replace H := Option.bind_eq_some_iff.mp H;obtain ⟨aq, aA, H⟩ := H
 try dsimp only at H
 have A2 := am aA;clear aA
 by_cases c3 : aq = true
 rotate_left
 ·replace c3 := Bool.eq_false_iff.mpr c3;subst c3
  have H1 : (some (0, false)) = some (r1, r2) := by rw [if_neg (show ¬ (false = true) by decide)] at H; exact H
  clear H;have H := H1;clear H1
  simp only [Option.some.injEq, Prod.mk.injEq] at H
  obtain ⟨rfl, rfl⟩ := H
  go_enter Try.func25, Try.ntmps25
  go_wp2_with (first | ((with_reducible refine gate_dst (N := 1) rfl ?_); (try (refine gate_guard (by rfl) ?_; dsimp only)); refine be 1 #[.int .u64 ae, .int .u64 af, .int .i64 aa, .slice ag ac.length ah] 27 ?_; intro ax hg bl hbox hb; have ad := am (hbox); have ay := gq hg HB; have az := gq hg HB; replace HB := lb HB hb; clear hb hbox hg; obtain ⟨aD, aE, aF, aG, aH, aI, aJ, aK⟩ := g4 ad) | ((with_reducible refine gate_callee (f := 21) rfl ?_); refine gl (some 5) Try.func21 #[.agg #[.int .u64 ae, .int .u64 af, .int .i64 aa, .slice ag ac.length ah]] ?_; (with_reducible refine (bottom_Right.calls k ae af aa _ _ ac false _ ?side1 ?side2 A2.out).mono ?_); (case side1 => repeat (first | exact (Kd.C_below ao.out HB.out) | (with_reducible refine Kd.C_alloc ?_ _) | (with_reducible refine Kd.C_drewN ?_ _) | (with_reducible refine Kd.C_drew ?_))); (case side2 => exact ap.out); rintro e bm ⟨rfl, hb⟩; refine ⟨_, rfl, ?_⟩; replace ad := kb ad hb; replace HB := lb HB hb; (try clear hb); (try clear hb2); (try clear hk); (try clear hi)))
  go_ret2
  exact ⟨by first | rfl | (simp [errW_none, errW_some] <;> rfl) | (simp [*, errW_none, errW_some] <;> rfl), pb HB⟩
 subst c3
 have H1 : (if (ac.length : Int) ≤ aa then (some (0, false)) else (if 0 ≤ aa then (if aa < (ac.length : Int) then (some ((rd_T62 ac aa).f1, true)) else (none)) else (none))) = some (r1, r2) := by rw [if_pos rfl] at H; exact H
 clear H;have H := H1;clear H1
 by_cases c4 : (ac.length : Int) ≤ aa
 ·rw [if_pos c4] at H;have aB : decide ((ac.length : Int) ≤ aa) = true := decide_eq_true c4;clear c4
  simp only [Option.some.injEq, Prod.mk.injEq] at H
  obtain ⟨rfl, rfl⟩ := H
  go_enter Try.func25, Try.ntmps25
  go_wp2_with (first | ((with_reducible refine gate_dst (N := 1) rfl ?_); (try (refine gate_guard (by rfl) ?_; dsimp only)); refine be 1 #[.int .u64 ae, .int .u64 af, .int .i64 aa, .slice ag ac.length ah] 27 ?_; intro ax hg w5 hbox hb; have ad := am (hbox); have ay := gq hg HB; have az := gq hg HB; replace HB := lb HB hb; clear hb hbox hg; obtain ⟨a1, a2, a3, a4, a5, a6, a7, a8⟩ := g4 ad) | ((with_reducible refine gate_callee (f := 21) rfl ?_); refine gl (some 5) Try.func21 #[.agg #[.int .u64 ae, .int .u64 af, .int .i64 aa, .slice ag ac.length ah]] ?_; (with_reducible refine (bottom_Right.calls k ae af aa _ _ ac true _ ?side1 ?side2 A2.out).mono ?_); (case side1 => repeat (first | exact (Kd.C_below ao.out HB.out) | (with_reducible refine Kd.C_alloc ?_ _) | (with_reducible refine Kd.C_drewN ?_ _) | (with_reducible refine Kd.C_drew ?_))); (case side2 => exact ap.out); rintro e w7 ⟨rfl, hb⟩; refine ⟨_, rfl, ?_⟩; replace ad := kb ad hb; replace HB := lb HB hb; (try clear hb); (try clear hb2); (try clear hk); (try clear hi); obtain ⟨a9, a_, ba, bb, bc, bd, bg, bh⟩ := g4 ad))
  go_ret2
  exact ⟨by first | rfl | (simp [errW_none, errW_some] <;> rfl) | (simp [*, errW_none, errW_some] <;> rfl), pb HB⟩
 rw [if_neg c4] at H;have aB : decide ((ac.length : Int) ≤ aa) = false := decide_eq_false c4;clear c4
 by_cases c9 : 0 ≤ aa
 rotate_left
 ·rw [if_neg c9] at H;exact absurd H (by simp)
 rw [if_pos c9] at H;have bk : decide (0 ≤ aa) = true := decide_eq_true c9;clear c9
 by_cases c10 : aa < (ac.length : Int)
 rotate_left
 ·rw [if_neg c10] at H;exact absurd H (by simp)
 rw [if_pos c10] at H;have bi : decide (aa < (ac.length : Int)) = true := decide_eq_true c10;clear c10
 simp only [Option.some.injEq, Prod.mk.injEq] at H
 obtain ⟨rfl, rfl⟩ := H
 go_enter Try.func25, Try.ntmps25
 go_wp2_with (first | ((with_reducible refine gate_dst (N := 1) rfl ?_); (try (refine gate_guard (by rfl) ?_; dsimp only)); refine be 1 #[.int .u64 ae, .int .u64 af, .int .i64 aa, .slice ag ac.length ah] 27 ?_; intro ax hg bn hbox hb; have ad := am (hbox); have ay := gq hg HB; have az := gq hg HB; replace HB := lb HB hb; clear hb hbox hg; obtain ⟨aL, aM, aN, aO, aP, aQ, aR, aS⟩ := g4 ad) | ((with_reducible refine gate_callee (f := 21) rfl ?_); refine gl (some 5) Try.func21 #[.agg #[.int .u64 ae, .int .u64 af, .int .i64 aa, .slice ag ac.length ah]] ?_; (with_reducible refine (bottom_Right.calls k ae af aa _ _ ac true _ ?side1 ?side2 A2.out).mono ?_); (case side1 => repeat (first | exact (Kd.C_below ao.out HB.out) | (with_reducible refine Kd.C_alloc ?_ _) | (with_reducible refine Kd.C_drewN ?_ _) | (with_reducible refine Kd.C_drew ?_))); (case side2 => exact ap.out); rintro e bo ⟨rfl, hb⟩; refine ⟨_, rfl, ?_⟩; replace ad := kb ad hb; replace HB := lb HB hb; (try clear hb); (try clear hb2); (try clear hk); (try clear hi); obtain ⟨aT, aU, aV, aW, aX, aY, aZ, a0⟩ := g4 ad; have ar : 0 ≤ (aa : Int) := of_decide_eq_true (by first | (with_reducible assumption) | assumption); have au : aa < (ac.length : Int) := of_decide_eq_true (by first | (with_reducible assumption) | assumption); obtain ⟨bj, aC, ai, aj, ak, an⟩ := at_T62 ao.out aa ar au; cases aC; replace ai := (HB.out.cell (World.block_lt_of_cell? w _ ai)).trans ai; replace aj := (HB.out.cell (World.block_lt_of_cell? w _ aj)).trans aj; replace ak := (HB.out.cell (World.block_lt_of_cell? w _ ak)).trans ak; replace an := (HB.out.cell (World.block_lt_of_cell? w _ an)).trans an; replace ar := eq_true ar; replace au := eq_true au))
 go_ret2
 exact ⟨by first | rfl | (simp [errW_none, errW_some] <;> rfl) | (simp [*, errW_none, errW_some] <;> rfl), pb HB⟩
end Go.Proofs.Ytmfffbafldbihaa.H
