import Derived.Test.YtpbiobbddgipkaaHx0
import Derived.Test.YtpbiobbddgipkaaHx4
import Derived.Test.YtpbiobbddgipkaaHx9
import Derived.Test.YtpbiobbddgipkaaHx10
namespace Go.Proofs.Ytpbiobbddgipkaa.H
open Go.RowKit Go.Proofs.YtpbiobbddgipkaaW.PrintWords Go.Proofs.YtpbiobbddgipkaaW.PrintLast Go.Proofs.YtpbiobbddgipkaaW.PrintMore Go.Proofs.YtpbiobbddgipkaaW.Sq
attribute [local go_sem] max2_int min2_int max_two min_two max_three min_three max_four min_four
set_option linter.unusedVariables false
set_option linter.unusedSimpArgs false

mutual
def strata_Right.j0 : Nat → Bool → Int → Int → Int → Int → List (S42) → Option (Bool)
 | 0, _, _, _, _, _, _ => none
 | k + 1, x26, x205000, x205001, x205002, x205003, x205004 => if x26 = true then (some false) else (strata_Right.l0 k x205004 (x205004.length : Int) 0 x205000 x205001 x205002 x205003 x205004)
def strata_Right.l0 : Nat → List (S42) → Int → Int → Int → Int → Int → Int → List (S42) → Option (Bool)
 | 0, _, _, _, _, _, _, _, _ => none
 | k + 1, x28, x29, x30, x205000, x205001, x205002, x205003, x205004 => if x30 < x29 then (if 0 ≤ x30 then (if x30 < (x28.length : Int) then ((strata_sound.f k x205000 x205001 x205002 x205003 x205004 ((rd_T42 x28 x30).f0) ((rd_T42 x28 x30).f1) ((rd_T42 x28 x30).f2.f0.f0) ((rd_T42 x28 x30).f2.f0.f1) ((rd_T42 x28 x30).f2.f1) ((rd_T42 x28 x30).f2.f2)).bind fun t216 => (if t216 = true then (if x30 > 0 then (if 0 ≤ (wrap64 (x30 - 1)) then (if (wrap64 (x30 - 1)) < (x205004.length : Int) then ((strata_compare.f k ((rd_T42 x205004 (wrap64 (x30 - 1))).f0) ((rd_T42 x205004 (wrap64 (x30 - 1))).f1) ((rd_T42 x205004 (wrap64 (x30 - 1))).f2.f0.f0) ((rd_T42 x205004 (wrap64 (x30 - 1))).f2.f0.f1) ((rd_T42 x205004 (wrap64 (x30 - 1))).f2.f1) ((rd_T42 x205004 (wrap64 (x30 - 1))).f2.f2) ((rd_T42 x28 x30).f0) ((rd_T42 x28 x30).f1) ((rd_T42 x28 x30).f2.f0.f0) ((rd_T42 x28 x30).f2.f0.f1) ((rd_T42 x28 x30).f2.f1) ((rd_T42 x28 x30).f2.f2)).bind fun t218 => (if t218 ≥ 0 then (some false) else (strata_Right.l0 k x28 x29 (wrap64 (x30 + 1)) x205000 x205001 x205002 x205003 x205004))) else (none)) else (none)) else (strata_Right.l0 k x28 x29 (wrap64 (x30 + 1)) x205000 x205001 x205002 x205003 x205004)) else (some false))) else (none)) else (none)) else (some true)
end
def strata_Right.f (k : Nat) (a0_0 : Int) (a0_1 : Int) (a0_2 : Int) (a0_3 : Int) (l0_4 : List (S42)) : Option (Bool) := (strata_New.f a0_0 a0_1 a0_2 a0_3).bind fun bt205 => (if bt205.2.2.2.2.2 = 0 then (strata_Right.j0 k (decide ((l0_4.length : Int) > a0_2)) a0_0 a0_1 a0_2 a0_3 l0_4) else (strata_Right.j0 k true a0_0 a0_1 a0_2 a0_3 l0_4))
theorem strata_Right.mono_l : ∀ k, (∀ y0 y1 y2 y3 y4 y5, LeO (strata_Right.j0 k y0 y1 y2 y3 y4 y5) (strata_Right.j0 (k + 1) y0 y1 y2 y3 y4 y5)) ∧ (∀ y0 y1 y2 y3 y4 y5 y6 y7, LeO (strata_Right.l0 k y0 y1 y2 y3 y4 y5 y6 y7) (strata_Right.l0 (k + 1) y0 y1 y2 y3 y4 y5 y6 y7))
 | 0 => ⟨fun _ _ _ _ _ _ r h => by simp [strata_Right.j0] at h, fun _ _ _ _ _ _ _ _ r h => by simp [strata_Right.l0] at h⟩
 | k + 1 => by
  obtain ⟨ih0, ih1⟩ := strata_Right.mono_l k
  refine ⟨?_, ?_⟩
  ·intro y0 y1 y2 y3 y4 y5
   unfold strata_Right.j0
   repeat' first
   | (with_reducible exact ih0 _ _ _ _ _ _)
   | (with_reducible exact ih1 _ _ _ _ _ _ _ _)
   | (with_reducible exact strata_compare.mono _ _ _ _ _ _ _ _ _ _ _ _ _)
   | (with_reducible exact strata_sound.mono _ _ _ _ _ _ _ _ _ _ _ _)
   | (with_reducible exact LeO.refl _)
   | (with_reducible exact LeO.none _)
   | (with_reducible refine LeO.ite ?_ ?_)
   | (with_reducible refine LeO.bind ?_ (fun _ => ?_))
  ·intro y0 y1 y2 y3 y4 y5 y6 y7
   unfold strata_Right.l0
   repeat' first
   | (with_reducible exact ih0 _ _ _ _ _ _)
   | (with_reducible exact ih1 _ _ _ _ _ _ _ _)
   | (with_reducible exact strata_compare.mono _ _ _ _ _ _ _ _ _ _ _ _ _)
   | (with_reducible exact strata_sound.mono _ _ _ _ _ _ _ _ _ _ _ _)
   | (with_reducible exact LeO.refl _)
   | (with_reducible exact LeO.none _)
   | (with_reducible refine LeO.ite ?_ ?_)
   | (with_reducible refine LeO.bind ?_ (fun _ => ?_))
theorem strata_Right.mono : ∀ a0 a1 a2 a3 a4 k, LeO (strata_Right.f k a0 a1 a2 a3 a4) (strata_Right.f (k + 1) a0 a1 a2 a3 a4) := by
 intro a0 a1 a2 a3 a4 k
 obtain ⟨ih0, ih1⟩ := strata_Right.mono_l k
 unfold strata_Right.f
 repeat' first
   | (with_reducible exact ih0 _ _ _ _ _ _)
   | (with_reducible exact ih1 _ _ _ _ _ _ _ _)
   | (with_reducible exact strata_compare.mono _ _ _ _ _ _ _ _ _ _ _ _ _)
   | (with_reducible exact strata_sound.mono _ _ _ _ _ _ _ _ _ _ _ _)
   | (with_reducible exact LeO.refl _)
   | (with_reducible exact LeO.none _)
   | (with_reducible refine LeO.ite ?_ ?_)
   | (with_reducible refine LeO.bind ?_ (fun _ => ?_))
def strata_Right.T7 : Bool × List (List Nat × List Nat) := (true, [([], []), ([], []), ([0, 1], [0, 1]), ([2], [2]), ([3, 2], [3]), ([4], [4]), ([5, 4], [4, 5]), ([6, 4, 4], [4, 6]), ([7], [7]), ([8, 7], [7, 8]), ([7], [7]), ([10, 7], [7, 10]), ([9, 11, 7], [7, 9, 11]), ([12, 7], [7, 12]), ([7], [7]), ([13, 14, 7, 7], [7, 13, 14]), ([15, 7], [7, 15]), ([7, 16, 4], [4, 7, 16]), ([4, 17], [4, 17])])
def strata_Right.B7 : List Nat := [0, 0, 3, 7, 15, 31, 63, 127, 255, 511, 255, 1279, 4095, 8191, 255, 32767, 65535, 131071, 262143]
theorem strata_Right.tab7 : rtab .any (opsOf Try.f20 7) = strata_Right.T7 := by kernel_rfl
theorem strata_Right.bits7 : waitsOk strata_Right.T7.2 strata_Right.B7 = true := by kernel_rfl
set_option maxHeartbeats 8000000 in
set_option maxRecDepth 100000 in
theorem strata_Right.calls (k : Nat) (a0_0 : Int) (a0_1 : Int) (a0_2 : Int) (a0_3 : Int) (A0_4 : Option Addr) (c0_4 : Nat) (l0_4 : List (S42)) (r : Bool) (w : World) (hr0_4 : Kd.C k42 w A0_4 l0_4.length l0_4) (hc0_4 : l0_4.length ≤ c0_4) (h : strata_Right.f k a0_0 a0_1 a0_2 a0_3 l0_4 = some r) :
  Calls Try.prog 20 #[.agg #[.int .u64 a0_0, .int .u64 a0_1, .int .i64 a0_2, .int .i64 a0_3, .slice A0_4 l0_4.length c0_4]] w fun e w' => e = .returned (.bool r) ∧ Below w.heap.size w w' := by
 have hu28 := Try.underlying28
 have hu24 := Try.underlying24
 have hu42 := Try.underlying42
 have HR0_4 := am hr0_4
 have HC0_4 := am hc0_4
 clear hr0_4 hc0_4
 have HB := am (Below.refl w.heap.size w)
 have H : ((strata_New.f a0_0 a0_1 a0_2 a0_3).bind fun bt205 => (if bt205.2.2.2.2.2 = 0 then (strata_Right.j0 k (decide ((l0_4.length : Int) > a0_2)) a0_0 a0_1 a0_2 a0_3 l0_4) else (strata_Right.j0 k true a0_0 a0_1 a0_2 a0_3 l0_4))) = some r := h
 clear h
 replace H := Option.bind_eq_some_iff.mp H
 obtain ⟨⟨t205, t206, t207, t208, t209, t212⟩, A20, H⟩ := H
 try dsimp only at H
 have A2 := am A20
 clear A20
 have HC3 := am H
 clear H
 go_enter Try.func20, Try.ntmps20
 go_upto_region 2 with (first | ((with_reducible refine gate_dst (N := 1) rfl ?_); (try (refine gate_guard (by rfl) ?_; dsimp only)); refine be 1 #[.int .u64 a0_0, .int .u64 a0_1, .int .i64 a0_2, .int .i64 a0_3, .slice A0_4 l0_4.length c0_4] 28 ?_; intro gb204 hg w4 hbox hb; have BK204 := am (hbox); have GW204 := am ((pg hg HB : w.heap.size ≤ gb204)); have GE204 := am ((pg hg HB : w.heap.size ≤ gb204)); replace HB := am (below_step (pb HB) hb); clear hb hbox hg; obtain ⟨hcz5_0, hcz5_1, hcz5_2, hcz5_3, hcz5_4, hfz5_0, hfz5_1, hfz5_2, hfz5_3, hfz5_4⟩ := g5 BK204) | ((with_reducible refine gate_callee (f := 8) rfl ?_); refine gl (some 14) Try.func8 #[.agg #[.int .u64 a0_0, .int .u64 a0_1], .int .i64 a0_2, .int .i64 a0_3] ?_; (with_reducible refine (strata_New.calls a0_0 a0_1 a0_2 a0_3 t205 t206 t207 t208 t209 t212 _ A2.out).mono ?_); rintro e w6 ⟨v210, rfl, ho0, hb⟩; refine ⟨_, rfl, ?_⟩; have HO211 := am (Kd.V_lower (Kd.V_mono (ok' := fun k_ => k_ ≠ gb204) ho0 (fun k_ hk_ => (Kd.freshB (g := gb204) (o := .cells #[.int .u64 a0_0, .int .u64 a0_1, .int .i64 a0_2, .int .i64 a0_3, .slice A0_4 l0_4.length c0_4] 28 (0, 0)) (pk BK204.out) k_ hk_))) (below_size (pb HB))); replace BK204 := am (blk_below (pk BK204.out) hb); replace HB := am (below_step (pb HB) hb); (try clear hb); (try clear hb2); (try clear hk); (try clear hi); (try clear ho0)) | ((with_reducible refine gate_dst (N := 3) rfl ?_); (try (refine gate_guard (by rfl) ?_; dsimp only)); refine be 3 #[.int .u64 0, .int .u64 0, .int .i64 0, .int .i64 0, .slice none 0 0] 28 ?_; intro gb213 hg w7 hbox hb; replace HO211 := am (Kd.V_below (Kd.V_elderB (pv HO211.out) gb213 (Nat.le_of_eq hg.symm)) hb); have BK213 := am (hbox); have GW213 := am ((pg hg HB : w.heap.size ≤ gb213)); have GE213 := am ((pg hg HB : w.heap.size ≤ gb213)); replace HB := am (below_step (pb HB) hb); obtain ⟨NB204_213, NB213_204, hnc8, hnb8⟩ := pm hg BK204; replace BK204 := am (blk_below (pk BK204.out) hb); clear hb hbox hg; obtain ⟨hcz9_0, hcz9_1, hcz9_2, hcz9_3, hcz9_4, hfz9_0, hfz9_1, hfz9_2, hfz9_3, hfz9_4⟩ := g5 BK213; obtain ⟨Ao10, co10, eo10⟩ := Kd.V_slice HO211.out; subst eo10))
 (try simp only [Act.put, List.setIfInBounds_toArray, List.set_cons_zero, List.set_cons_succ])
 go_cut [26] (fun v26 wc => ∃ (kq : Nat) (x26_2 : Bool), v26 = .bool x26_2 ∧ Aside0 (strata_Right.j0 kq x26_2 a0_0 a0_1 a0_2 a0_3 l0_4 = some r) ∧ Aside0 (kq ≤ k) ∧ Aside0 (Kd.V k42 42 wc w.heap.size (fun k_ => k_ ≠ gb204 ∧ k_ ≠ gb213) (.slice Ao10 t209.length co10) t209) ∧ Aside0 (wc.heap[gb204]? = some (.cells #[.int .u64 a0_0, .int .u64 a0_1, .int .i64 a0_2, .int .i64 a0_3, (.slice A0_4 l0_4.length c0_4)] 28 (0, 0))) ∧ Aside0 (wc.heap[gb213]? = some (.cells #[.int .u64 t205, .int .u64 t206, .int .i64 t207, .int .i64 t208, (.slice Ao10 t209.length co10)] 28 (0, 0))) ∧ Aside0 (Below w.heap.size w wc))
 case first =>
  have H := HC3.out
  clear HC3
  by_cases c11 : t212 = 0
  ·rw [if_pos c11] at H
   have c11b0 : (t212 == 0) = true := beq_iff_eq.mpr c11
   have c11b1 : (t212 != 0) = false := bne_eq_false_iff_eq.mpr c11
   clear c11
   (first | rw [c11b0] | (simp only [i64_w, i32_w]; rw [c11b0]) | skip)
   have H' := am H
   clear H
   have hnb12 := NB204_213.out
   have hnc12 := NB213_204.out
   obtain ⟨hcz13_0, hcz13_1, hcz13_2, hcz13_3, hcz13_4, hfz13_0, hfz13_1, hfz13_2, hfz13_3, hfz13_4⟩ := g5 BK204
   go_wp2
   go_meet
   case rel => exact ⟨_, (decide ((l0_4.length : Int) > a0_2)), (by first | rfl | (simp; done) | (simp [*]; done)), H', ⟨by first | omega | exact Nat.le_refl _⟩, ⟨by refine pv ?_; exact Kd.V_mono (Kd.V_far (p := ⟨gb213, 4, none⟩) (Kd.V_far (p := ⟨gb213, 3, none⟩) (Kd.V_far (p := ⟨gb213, 2, none⟩) (Kd.V_far (p := ⟨gb213, 1, none⟩) (Kd.V_far (p := ⟨gb213, 0, none⟩) (Kd.V_mono HO211.out (fun k_ hk => (⟨hk, hk.2⟩ : _ ∧ k_ ≠ gb213))) (fun _ hk => hk.2) (.int .u64 t205)) (fun _ hk => hk.2) (.int .u64 t206)) (fun _ hk => hk.2) (.int .i64 t207)) (fun _ hk => hk.2) (.int .i64 t208)) (fun _ hk => hk.2) (.slice Ao10 t209.length co10)) (fun _ hk => ⟨hk.1.1, hk.1.2⟩)⟩, ⟨by refine pk ?_; refine blk_far ?_ NB204_213.out _; refine pk ?_; refine blk_far ?_ NB204_213.out _; refine pk ?_; refine blk_far ?_ NB204_213.out _; refine pk ?_; refine blk_far ?_ NB204_213.out _; refine pk ?_; refine blk_far ?_ NB204_213.out _; refine pk ?_; exact BK204.out⟩, ⟨by refine pk ?_; refine blk_put (cs := #[.int .u64 t205, .int .u64 t206, .int .i64 t207, .int .i64 t208, .slice none 0 0]) ?_ 4 _ rfl; refine pk ?_; refine blk_put (cs := #[.int .u64 t205, .int .u64 t206, .int .i64 t207, .int .i64 0, .slice none 0 0]) ?_ 3 _ rfl; refine pk ?_; refine blk_put (cs := #[.int .u64 t205, .int .u64 t206, .int .i64 0, .int .i64 0, .slice none 0 0]) ?_ 2 _ rfl; refine pk ?_; refine blk_put (cs := #[.int .u64 t205, .int .u64 0, .int .i64 0, .int .i64 0, .slice none 0 0]) ?_ 1 _ rfl; refine pk ?_; refine blk_put (cs := #[.int .u64 0, .int .u64 0, .int .i64 0, .int .i64 0, .slice none 0 0]) ?_ 0 _ rfl; refine pk ?_; exact BK213.out⟩, ⟨pb HB⟩⟩
  ·rw [if_neg c11] at H
   have c11b0 : (t212 == 0) = false := beq_eq_false_iff_ne.mpr c11
   have c11b1 : (t212 != 0) = true := bne_iff_ne.mpr c11
   (first | rw [c11b0] | (simp only [i64_w, i32_w]; rw [c11b0]) | skip)
   have H' := am H
   clear H
   go_wp2
   go_meet
   case rel => exact ⟨_, (true), (by first | rfl | (simp; done) | (simp [*]; done)), H', ⟨by first | omega | exact Nat.le_refl _⟩, ⟨by refine pv ?_; exact Kd.V_mono (Kd.V_far (p := ⟨gb213, 4, none⟩) (Kd.V_far (p := ⟨gb213, 3, none⟩) (Kd.V_far (p := ⟨gb213, 2, none⟩) (Kd.V_far (p := ⟨gb213, 1, none⟩) (Kd.V_far (p := ⟨gb213, 0, none⟩) (Kd.V_mono HO211.out (fun k_ hk => (⟨hk, hk.2⟩ : _ ∧ k_ ≠ gb213))) (fun _ hk => hk.2) (.int .u64 t205)) (fun _ hk => hk.2) (.int .u64 t206)) (fun _ hk => hk.2) (.int .i64 t207)) (fun _ hk => hk.2) (.int .i64 t208)) (fun _ hk => hk.2) (.slice Ao10 t209.length co10)) (fun _ hk => ⟨hk.1.1, hk.1.2⟩)⟩, ⟨by refine pk ?_; refine blk_far ?_ NB204_213.out _; refine pk ?_; refine blk_far ?_ NB204_213.out _; refine pk ?_; refine blk_far ?_ NB204_213.out _; refine pk ?_; refine blk_far ?_ NB204_213.out _; refine pk ?_; refine blk_far ?_ NB204_213.out _; refine pk ?_; exact BK204.out⟩, ⟨by refine pk ?_; refine blk_put (cs := #[.int .u64 t205, .int .u64 t206, .int .i64 t207, .int .i64 t208, .slice none 0 0]) ?_ 4 _ rfl; refine pk ?_; refine blk_put (cs := #[.int .u64 t205, .int .u64 t206, .int .i64 t207, .int .i64 0, .slice none 0 0]) ?_ 3 _ rfl; refine pk ?_; refine blk_put (cs := #[.int .u64 t205, .int .u64 t206, .int .i64 0, .int .i64 0, .slice none 0 0]) ?_ 2 _ rfl; refine pk ?_; refine blk_put (cs := #[.int .u64 t205, .int .u64 0, .int .i64 0, .int .i64 0, .slice none 0 0]) ?_ 1 _ rfl; refine pk ?_; refine blk_put (cs := #[.int .u64 0, .int .u64 0, .int .i64 0, .int .i64 0, .slice none 0 0]) ?_ 0 _ rfl; refine pk ?_; exact BK213.out⟩, ⟨pb HB⟩⟩
 case rest =>
  clear HC3
  try clear c1
  try clear c2
  try clear p2
  try clear c8
  try clear c11
  try clear c11b0
  try clear c11b1
  try clear c12
  try clear hcz13_0 hcz13_1 hcz13_2 hcz13_3 hcz13_4
  try clear hcz5_0 hcz5_1 hcz5_2 hcz5_3 hcz5_4
  try clear hcz9_0 hcz9_1 hcz9_2 hcz9_3 hcz9_4
  try clear hfz13_0 hfz13_1 hfz13_2 hfz13_3 hfz13_4
  try clear hfz5_0 hfz5_1 hfz5_2 hfz5_3 hfz5_4
  try clear hfz9_0 hfz9_1 hfz9_2 hfz9_3 hfz9_4
  obtain ⟨kq, x26_2, rfl, HA, HJ2, HO_214004, BK204, BK213, HB⟩ := hcut
  cases kq with
  | zero => exact absurd HA.out (by simp [strata_Right.j0])
  | succ kj2 =>
   have H := HA.out
   clear HA
   simp only [strata_Right.j0] at H
   by_cases c14 : x26_2 = true
   ·subst c14
    have H1 : (some false) = some r := by rw [if_pos rfl] at H; exact H
    clear H
    have H := H1
    clear H1
    obtain rfl := Option.some.inj H
    go_wp2
    go_ret
    exact ⟨by first | rfl | (simp [errW_none, errW_some] <;> rfl) | (simp [*, errW_none, errW_some] <;> rfl), pb HB⟩
   ·replace c14 := Bool.eq_false_iff.mpr c14
    subst c14
    have H1 : (strata_Right.l0 kj2 l0_4 (l0_4.length : Int) 0 a0_0 a0_1 a0_2 a0_3 l0_4) = some r := by rw [if_neg (show ¬ (false = true) by decide)] at H; exact H
    clear H
    have H := H1
    clear H1
    have H' := am H
    clear H
    have hnb15 := NB204_213.out
    have hnc15 := NB213_204.out
    obtain ⟨hcz16_0, hcz16_1, hcz16_2, hcz16_3, hcz16_4, hfz16_0, hfz16_1, hfz16_2, hfz16_3, hfz16_4⟩ := g5 BK204
    go_wp2
    go_loopg [30] kj2 (fun kq v30 w' => ∃ (x30_2 : Int), v30 = .int .i64 x30_2 ∧ Aside0 (strata_Right.l0 kq l0_4 (l0_4.length : Int) x30_2 a0_0 a0_1 a0_2 a0_3 l0_4 = some r) ∧ Aside0 (kq ≤ kj2) ∧ Aside0 (Kd.V k42 42 w' w.heap.size (fun k_ => k_ ≠ gb204 ∧ k_ ≠ gb213) (.slice Ao10 t209.length co10) t209) ∧ Aside0 (w'.heap[gb204]? = some (.cells #[.int .u64 a0_0, .int .u64 a0_1, .int .i64 a0_2, .int .i64 a0_3, (.slice A0_4 l0_4.length c0_4)] 28 (0, 0))) ∧ Aside0 (w'.heap[gb213]? = some (.cells #[.int .u64 t205, .int .u64 t206, .int .i64 t207, .int .i64 t208, (.slice Ao10 t209.length co10)] 28 (0, 0))) ∧ Aside0 (Below w.heap.size w w'))
    case atStart => exact ⟨(0), (by first | rfl | (simp; done) | (simp [*]; done)), H', ⟨Nat.le_refl _⟩, ⟨pv HO_214004.out⟩, ⟨pk BK204.out⟩, ⟨pk BK213.out⟩, ⟨pb HB⟩⟩
    case round =>
     clear H'
     try clear c1
     try clear c2
     try clear p2
     try clear c8
     try clear c11
     try clear c11b0
     try clear c11b1
     try clear c12
     try clear c14
     try clear c15
     try clear hcz13_0 hcz13_1 hcz13_2 hcz13_3 hcz13_4
     try clear hcz16_0 hcz16_1 hcz16_2 hcz16_3 hcz16_4
     try clear hcz5_0 hcz5_1 hcz5_2 hcz5_3 hcz5_4
     try clear hcz9_0 hcz9_1 hcz9_2 hcz9_3 hcz9_4
     try clear hfz13_0 hfz13_1 hfz13_2 hfz13_3 hfz13_4
     try clear hfz16_0 hfz16_1 hfz16_2 hfz16_3 hfz16_4
     try clear hfz5_0 hfz5_1 hfz5_2 hfz5_3 hfz5_4
     try clear hfz9_0 hfz9_1 hfz9_2 hfz9_3 hfz9_4
     try clear p2
     obtain ⟨x30_2, rfl, HA, HK2, HO_214004, BK204, BK213, HB⟩ := hrel
     cases gk with
     | zero => exact absurd HA.out (by simp [strata_Right.l0])
     | succ k2 =>
      have H := HA.out
      clear HA
      simp only [strata_Right.l0] at H
      by_cases c17 : x30_2 < (l0_4.length : Int)
      ·rw [if_pos c17] at H
       have c17b0 : decide (x30_2 < (l0_4.length : Int)) = true := decide_eq_true c17
       clear c17
       by_cases c18 : 0 ≤ x30_2
       ·rw [if_pos c18] at H
        have c18b0 : decide (0 ≤ x30_2) = true := decide_eq_true c18
        clear c18
        by_cases c19 : x30_2 < (l0_4.length : Int)
        ·rw [if_pos c19] at H
         have c19b0 : decide (x30_2 < (l0_4.length : Int)) = true := decide_eq_true c19
         clear c19
         replace H := Option.bind_eq_some_iff.mp H
         obtain ⟨t216, A200, H⟩ := H
         try dsimp only at H
         have A20 := am A200
         clear A200
         by_cases c21 : t216 = true
         ·subst c21
          have H1 : (if x30_2 > 0 then (if 0 ≤ (wrap64 (x30_2 - 1)) then (if (wrap64 (x30_2 - 1)) < (l0_4.length : Int) then ((strata_compare.f k2 ((rd_T42 l0_4 (wrap64 (x30_2 - 1))).f0) ((rd_T42 l0_4 (wrap64 (x30_2 - 1))).f1) ((rd_T42 l0_4 (wrap64 (x30_2 - 1))).f2.f0.f0) ((rd_T42 l0_4 (wrap64 (x30_2 - 1))).f2.f0.f1) ((rd_T42 l0_4 (wrap64 (x30_2 - 1))).f2.f1) ((rd_T42 l0_4 (wrap64 (x30_2 - 1))).f2.f2) ((rd_T42 l0_4 x30_2).f0) ((rd_T42 l0_4 x30_2).f1) ((rd_T42 l0_4 x30_2).f2.f0.f0) ((rd_T42 l0_4 x30_2).f2.f0.f1) ((rd_T42 l0_4 x30_2).f2.f1) ((rd_T42 l0_4 x30_2).f2.f2)).bind fun t218 => (if t218 ≥ 0 then (some false) else (strata_Right.l0 k2 l0_4 (l0_4.length : Int) (wrap64 (x30_2 + 1)) a0_0 a0_1 a0_2 a0_3 l0_4))) else (none)) else (none)) else (strata_Right.l0 k2 l0_4 (l0_4.length : Int) (wrap64 (x30_2 + 1)) a0_0 a0_1 a0_2 a0_3 l0_4)) = some r := by rw [if_pos rfl] at H; exact H
          clear H
          have H := H1
          clear H1
          by_cases c22 : x30_2 > 0
          ·rw [if_pos c22] at H
           have c22b0 : decide (0 < x30_2) = true := decide_eq_true c22
           clear c22
           obtain ⟨ji23, hji23⟩ : ∃ j_ : Int, (wrap64 (x30_2 - 1)) = j_ := ⟨_, rfl⟩
           replace H : (if 0 ≤ (ji23) then (if (ji23) < (l0_4.length : Int) then ((strata_compare.f k2 ((rd_T42 l0_4 (ji23)).f0) ((rd_T42 l0_4 (ji23)).f1) ((rd_T42 l0_4 (ji23)).f2.f0.f0) ((rd_T42 l0_4 (ji23)).f2.f0.f1) ((rd_T42 l0_4 (ji23)).f2.f1) ((rd_T42 l0_4 (ji23)).f2.f2) ((rd_T42 l0_4 x30_2).f0) ((rd_T42 l0_4 x30_2).f1) ((rd_T42 l0_4 x30_2).f2.f0.f0) ((rd_T42 l0_4 x30_2).f2.f0.f1) ((rd_T42 l0_4 x30_2).f2.f1) ((rd_T42 l0_4 x30_2).f2.f2)).bind fun t218 => (if t218 ≥ 0 then (some false) else (strata_Right.l0 k2 l0_4 (l0_4.length : Int) (wrap64 (x30_2 + 1)) a0_0 a0_1 a0_2 a0_3 l0_4))) else (none)) else (none)) = some r := by first | (rw [hji23] at H; exact H) | (simp only [hji23] at H ⊢; exact H)
           (try rw [hji23] at A20)
           have hji23w : (IntKind.i64.wrap (x30_2 - 1)) = ji23 := (i64_w _).trans hji23
           by_cases c24 : 0 ≤ (ji23)
           ·rw [if_pos c24] at H
            have c24b0 : decide (0 ≤ (ji23)) = true := decide_eq_true c24
            clear c24
            by_cases c25 : (ji23) < (l0_4.length : Int)
            ·rw [if_pos c25] at H
             have c25b0 : decide ((ji23) < (l0_4.length : Int)) = true := decide_eq_true c25
             clear c25
             replace H := Option.bind_eq_some_iff.mp H
             obtain ⟨t218, A260, H⟩ := H
             try dsimp only at H
             have A26 := am A260
             clear A260
             by_cases c27 : t218 ≥ 0
             ·rw [if_pos c27] at H
              have c27b0 : decide (0 ≤ t218) = true := decide_eq_true c27
              clear c27
              obtain rfl := Option.some.inj H
              have p214 : 0 ≤ (x30_2 : Int) := of_decide_eq_true (by first | (with_reducible assumption) | assumption)
              have q214 : x30_2 < (l0_4.length : Int) := of_decide_eq_true (by first | (with_reducible assumption) | assumption)
              obtain ⟨ad214, A214_5, c214_5, e214, hx214_0, hx214_1, hx214_2, hx214_3, hx214_4, hx214_5, hl214_5, hi214_5⟩ := at_T42 HR0_4.out x30_2 p214 q214
              cases e214
              replace hx214_0 := (HB.out.cell (World.block_lt_of_cell? w _ hx214_0)).trans hx214_0
              replace hx214_1 := (HB.out.cell (World.block_lt_of_cell? w _ hx214_1)).trans hx214_1
              replace hx214_2 := (HB.out.cell (World.block_lt_of_cell? w _ hx214_2)).trans hx214_2
              replace hx214_3 := (HB.out.cell (World.block_lt_of_cell? w _ hx214_3)).trans hx214_3
              replace hx214_4 := (HB.out.cell (World.block_lt_of_cell? w _ hx214_4)).trans hx214_4
              replace hx214_5 := (HB.out.cell (World.block_lt_of_cell? w _ hx214_5)).trans hx214_5
              have HR214_5 := am hi214_5
              have HC214_5 := am hl214_5
              clear hi214_5 hl214_5
              replace p214 := eq_true p214
              replace q214 := eq_true q214
              try go_wp2_with (first | ((with_reducible refine gate_dst (N := 6) rfl ?_); (try (refine gate_guard (by rfl) ?_; dsimp only)); refine be 6 #[.string (⟨#[]⟩ : ByteArray), .int .u64 0, .int .u64 0, .int .u64 0, .int .i64 0, .slice none 0 0] 42 ?_; intro gb215 hg w28 hbox hb; replace HO_214004 := am (Kd.V_below (Kd.V_elderB (pv HO_214004.out) gb215 (Nat.le_of_eq hg.symm)) hb); have BK215 := am (hbox); have GW215 := am ((pg hg HB : w.heap.size ≤ gb215)); have GE215 := am ((pg hg HB : w.heap.size ≤ gb215)); replace HB := am (below_step (pb HB) hb); obtain ⟨NB204_215, NB215_204, hnc29, hnb29⟩ := pm hg BK204; replace BK204 := am (blk_below (pk BK204.out) hb); obtain ⟨NB213_215, NB215_213, hnc30, hnb30⟩ := pm hg BK213; replace BK213 := am (blk_below (pk BK213.out) hb); clear hb hbox hg; obtain ⟨hcz31_0, hcz31_1, hcz31_2, hcz31_3, hcz31_4, hcz31_5, hfz31_0, hfz31_1, hfz31_2, hfz31_3, hfz31_4, hfz31_5⟩ := g6 BK215))
              have n0_ : Aside0 (Kd.V k42 42 ((((((w28.setCell ⟨gb215, 0, none⟩ (.string ((rd_T42 l0_4 x30_2).f0))).setCell ⟨gb215, 1, none⟩ (.int .u64 ((rd_T42 l0_4 x30_2).f1))).setCell ⟨gb215, 2, none⟩ (.int .u64 ((rd_T42 l0_4 x30_2).f2.f0.f0))).setCell ⟨gb215, 3, none⟩ (.int .u64 ((rd_T42 l0_4 x30_2).f2.f0.f1))).setCell ⟨gb215, 4, none⟩ (.int .i64 ((rd_T42 l0_4 x30_2).f2.f1))).setCell ⟨gb215, 5, none⟩ (.slice A214_5 ((rd_T42 l0_4 x30_2).f2.f2).length c214_5)) w.heap.size (fun k_ => k_ ≠ gb204 ∧ k_ ≠ gb213 ∧ k_ ≠ gb215) (.slice Ao10 t209.length co10) t209) := ⟨by refine pv ?_; exact Kd.V_mono (Kd.V_far (p := ⟨gb215, 5, none⟩) (Kd.V_far (p := ⟨gb215, 4, none⟩) (Kd.V_far (p := ⟨gb215, 3, none⟩) (Kd.V_far (p := ⟨gb215, 2, none⟩) (Kd.V_far (p := ⟨gb215, 1, none⟩) (Kd.V_far (p := ⟨gb215, 0, none⟩) (Kd.V_mono HO_214004.out (fun k_ hk => (⟨hk, hk.2⟩ : _ ∧ k_ ≠ gb215))) (fun _ hk => hk.2) (.string ((rd_T42 l0_4 x30_2).f0))) (fun _ hk => hk.2) (.int .u64 ((rd_T42 l0_4 x30_2).f1))) (fun _ hk => hk.2) (.int .u64 ((rd_T42 l0_4 x30_2).f2.f0.f0))) (fun _ hk => hk.2) (.int .u64 ((rd_T42 l0_4 x30_2).f2.f0.f1))) (fun _ hk => hk.2) (.int .i64 ((rd_T42 l0_4 x30_2).f2.f1))) (fun _ hk => hk.2) (.slice A214_5 ((rd_T42 l0_4 x30_2).f2.f2).length c214_5)) (fun _ hk => ⟨hk.1.1.1, ⟨hk.1.1.2, hk.1.2⟩⟩)⟩
              have n1_ : Aside0 (((((((w28.setCell ⟨gb215, 0, none⟩ (.string ((rd_T42 l0_4 x30_2).f0))).setCell ⟨gb215, 1, none⟩ (.int .u64 ((rd_T42 l0_4 x30_2).f1))).setCell ⟨gb215, 2, none⟩ (.int .u64 ((rd_T42 l0_4 x30_2).f2.f0.f0))).setCell ⟨gb215, 3, none⟩ (.int .u64 ((rd_T42 l0_4 x30_2).f2.f0.f1))).setCell ⟨gb215, 4, none⟩ (.int .i64 ((rd_T42 l0_4 x30_2).f2.f1))).setCell ⟨gb215, 5, none⟩ (.slice A214_5 ((rd_T42 l0_4 x30_2).f2.f2).length c214_5)).heap[gb204]? = some (.cells #[.int .u64 a0_0, .int .u64 a0_1, .int .i64 a0_2, .int .i64 a0_3, .slice (some ad214) l0_4.length c0_4] 28 (0, 0))) := ⟨by refine pk ?_; refine blk_far ?_ NB204_215.out _; refine pk ?_; refine blk_far ?_ NB204_215.out _; refine pk ?_; refine blk_far ?_ NB204_215.out _; refine pk ?_; refine blk_far ?_ NB204_215.out _; refine pk ?_; refine blk_far ?_ NB204_215.out _; refine pk ?_; refine blk_far ?_ NB204_215.out _; refine pk ?_; exact BK204.out⟩
              have n2_ : Aside0 (((((((w28.setCell ⟨gb215, 0, none⟩ (.string ((rd_T42 l0_4 x30_2).f0))).setCell ⟨gb215, 1, none⟩ (.int .u64 ((rd_T42 l0_4 x30_2).f1))).setCell ⟨gb215, 2, none⟩ (.int .u64 ((rd_T42 l0_4 x30_2).f2.f0.f0))).setCell ⟨gb215, 3, none⟩ (.int .u64 ((rd_T42 l0_4 x30_2).f2.f0.f1))).setCell ⟨gb215, 4, none⟩ (.int .i64 ((rd_T42 l0_4 x30_2).f2.f1))).setCell ⟨gb215, 5, none⟩ (.slice A214_5 ((rd_T42 l0_4 x30_2).f2.f2).length c214_5)).heap[gb213]? = some (.cells #[.int .u64 t205, .int .u64 t206, .int .i64 t207, .int .i64 t208, .slice Ao10 t209.length co10] 28 (0, 0))) := ⟨by refine pk ?_; refine blk_far ?_ NB213_215.out _; refine pk ?_; refine blk_far ?_ NB213_215.out _; refine pk ?_; refine blk_far ?_ NB213_215.out _; refine pk ?_; refine blk_far ?_ NB213_215.out _; refine pk ?_; refine blk_far ?_ NB213_215.out _; refine pk ?_; refine blk_far ?_ NB213_215.out _; refine pk ?_; exact BK213.out⟩
              have n3_ : Aside0 (((((((w28.setCell ⟨gb215, 0, none⟩ (.string ((rd_T42 l0_4 x30_2).f0))).setCell ⟨gb215, 1, none⟩ (.int .u64 ((rd_T42 l0_4 x30_2).f1))).setCell ⟨gb215, 2, none⟩ (.int .u64 ((rd_T42 l0_4 x30_2).f2.f0.f0))).setCell ⟨gb215, 3, none⟩ (.int .u64 ((rd_T42 l0_4 x30_2).f2.f0.f1))).setCell ⟨gb215, 4, none⟩ (.int .i64 ((rd_T42 l0_4 x30_2).f2.f1))).setCell ⟨gb215, 5, none⟩ (.slice A214_5 ((rd_T42 l0_4 x30_2).f2.f2).length c214_5)).heap[gb215]? = some (.cells #[.string ((rd_T42 l0_4 x30_2).f0), .int .u64 ((rd_T42 l0_4 x30_2).f1), .int .u64 ((rd_T42 l0_4 x30_2).f2.f0.f0), .int .u64 ((rd_T42 l0_4 x30_2).f2.f0.f1), .int .i64 ((rd_T42 l0_4 x30_2).f2.f1), .slice A214_5 ((rd_T42 l0_4 x30_2).f2.f2).length c214_5] 42 (0, 0))) := ⟨by refine pk ?_; refine blk_put (cs := #[.string ((rd_T42 l0_4 x30_2).f0), .int .u64 ((rd_T42 l0_4 x30_2).f1), .int .u64 ((rd_T42 l0_4 x30_2).f2.f0.f0), .int .u64 ((rd_T42 l0_4 x30_2).f2.f0.f1), .int .i64 ((rd_T42 l0_4 x30_2).f2.f1), .slice none 0 0]) ?_ 5 _ rfl; refine pk ?_; refine blk_put (cs := #[.string ((rd_T42 l0_4 x30_2).f0), .int .u64 ((rd_T42 l0_4 x30_2).f1), .int .u64 ((rd_T42 l0_4 x30_2).f2.f0.f0), .int .u64 ((rd_T42 l0_4 x30_2).f2.f0.f1), .int .i64 0, .slice none 0 0]) ?_ 4 _ rfl; refine pk ?_; refine blk_put (cs := #[.string ((rd_T42 l0_4 x30_2).f0), .int .u64 ((rd_T42 l0_4 x30_2).f1), .int .u64 ((rd_T42 l0_4 x30_2).f2.f0.f0), .int .u64 0, .int .i64 0, .slice none 0 0]) ?_ 3 _ rfl; refine pk ?_; refine blk_put (cs := #[.string ((rd_T42 l0_4 x30_2).f0), .int .u64 ((rd_T42 l0_4 x30_2).f1), .int .u64 0, .int .u64 0, .int .i64 0, .slice none 0 0]) ?_ 2 _ rfl; refine pk ?_; refine blk_put (cs := #[.string ((rd_T42 l0_4 x30_2).f0), .int .u64 0, .int .u64 0, .int .u64 0, .int .i64 0, .slice none 0 0]) ?_ 1 _ rfl; refine pk ?_; refine blk_put (cs := #[.string (⟨#[]⟩ : ByteArray), .int .u64 0, .int .u64 0, .int .u64 0, .int .i64 0, .slice none 0 0]) ?_ 0 _ rfl; refine pk ?_; exact BK215.out⟩
              have n4_ : Aside0 (Below w.heap.size w ((((((w28.setCell ⟨gb215, 0, none⟩ (.string ((rd_T42 l0_4 x30_2).f0))).setCell ⟨gb215, 1, none⟩ (.int .u64 ((rd_T42 l0_4 x30_2).f1))).setCell ⟨gb215, 2, none⟩ (.int .u64 ((rd_T42 l0_4 x30_2).f2.f0.f0))).setCell ⟨gb215, 3, none⟩ (.int .u64 ((rd_T42 l0_4 x30_2).f2.f0.f1))).setCell ⟨gb215, 4, none⟩ (.int .i64 ((rd_T42 l0_4 x30_2).f2.f1))).setCell ⟨gb215, 5, none⟩ (.slice A214_5 ((rd_T42 l0_4 x30_2).f2.f2).length c214_5))) := ⟨pb HB⟩
              (try clear HO_214004)
              (try clear BK204)
              (try clear BK213)
              (try clear BK215)
              (try clear HB)
              generalize ((((((w28.setCell ⟨gb215, 0, none⟩ (.string ((rd_T42 l0_4 x30_2).f0))).setCell ⟨gb215, 1, none⟩ (.int .u64 ((rd_T42 l0_4 x30_2).f1))).setCell ⟨gb215, 2, none⟩ (.int .u64 ((rd_T42 l0_4 x30_2).f2.f0.f0))).setCell ⟨gb215, 3, none⟩ (.int .u64 ((rd_T42 l0_4 x30_2).f2.f0.f1))).setCell ⟨gb215, 4, none⟩ (.int .i64 ((rd_T42 l0_4 x30_2).f2.f1))).setCell ⟨gb215, 5, none⟩ (.slice A214_5 ((rd_T42 l0_4 x30_2).f2.f2).length c214_5)) = w32 at n0_ n1_ n2_ n3_ n4_ ⊢
              have HO_214004 := n0_
              have BK204 := n1_
              have BK213 := n2_
              have BK215 := n3_
              have HB := n4_
              clear n0_ n1_ n2_ n3_ n4_
              replace HO_214004 := am (Kd.V_drew HO_214004.out)
              replace BK204 := am (blk_drew BK204.out)
              replace BK213 := am (blk_drew BK213.out)
              replace BK215 := am (blk_drew BK215.out)
              replace HB := am (below_drew1 HB.out)
              have p217 : 0 ≤ ((ji23) : Int) := of_decide_eq_true (by first | (with_reducible assumption) | assumption)
              have q217 : (ji23) < (l0_4.length : Int) := of_decide_eq_true (by first | (with_reducible assumption) | assumption)
              obtain ⟨ad217, A217_5, c217_5, e217, hx217_0, hx217_1, hx217_2, hx217_3, hx217_4, hx217_5, hl217_5, hi217_5⟩ := at_T42 HR0_4.out (ji23) p217 q217
              have hw217_5 := hx217_5
              have hw217_4 := hx217_4
              have hw217_3 := hx217_3
              have hw217_2 := hx217_2
              have hw217_1 := hx217_1
              have hw217_0 := hx217_0
              obtain rfl : ad214 = ad217 := (by injection e217)
              replace hx217_0 := (HB.out.cell (World.block_lt_of_cell? w _ hx217_0)).trans hx217_0
              replace hx217_1 := (HB.out.cell (World.block_lt_of_cell? w _ hx217_1)).trans hx217_1
              replace hx217_2 := (HB.out.cell (World.block_lt_of_cell? w _ hx217_2)).trans hx217_2
              replace hx217_3 := (HB.out.cell (World.block_lt_of_cell? w _ hx217_3)).trans hx217_3
              replace hx217_4 := (HB.out.cell (World.block_lt_of_cell? w _ hx217_4)).trans hx217_4
              replace hx217_5 := (HB.out.cell (World.block_lt_of_cell? w _ hx217_5)).trans hx217_5
              have HR217_5 := am hi217_5
              have HC217_5 := am hl217_5
              clear hi217_5 hl217_5
              replace p217 := eq_true p217
              replace q217 := eq_true q217
              refine start_ (n := 19) (S := fun w' => w'.cell? ⟨gb204, 0, none⟩ = some (.int .u64 a0_0) ∧ w'.cell? ⟨gb204, 1, none⟩ = some (.int .u64 a0_1) ∧ w'.cell? ⟨gb204, 2, none⟩ = some (.int .i64 a0_2) ∧ w'.cell? ⟨gb204, 3, none⟩ = some (.int .i64 a0_3) ∧ w'.cell? ⟨gb204, 4, none⟩ = some (.slice (some ad214) l0_4.length c0_4) ∧ w'.cell? ⟨gb215, 0, none⟩ = some (.string ((rd_T42 l0_4 x30_2).f0)) ∧ w'.cell? ⟨gb215, 1, none⟩ = some (.int .u64 ((rd_T42 l0_4 x30_2).f1)) ∧ w'.cell? ⟨gb215, 2, none⟩ = some (.int .u64 ((rd_T42 l0_4 x30_2).f2.f0.f0)) ∧ w'.cell? ⟨gb215, 3, none⟩ = some (.int .u64 ((rd_T42 l0_4 x30_2).f2.f0.f1)) ∧ w'.cell? ⟨gb215, 4, none⟩ = some (.int .i64 ((rd_T42 l0_4 x30_2).f2.f1)) ∧ w'.cell? ⟨gb215, 5, none⟩ = some (.slice A214_5 ((rd_T42 l0_4 x30_2).f2.f2).length c214_5) ∧ w'.cell? (ad214.add (((ji23)).toNat * 6)) = some (.string ((rd_T42 l0_4 (ji23)).f0)) ∧ w'.cell? ⟨(ad214.add (((ji23)).toNat * 6)).block, (ad214.add (((ji23)).toNat * 6)).off + 1, none⟩ = some (.int .u64 ((rd_T42 l0_4 (ji23)).f1)) ∧ w'.cell? ⟨(ad214.add (((ji23)).toNat * 6)).block, (ad214.add (((ji23)).toNat * 6)).off + 2, none⟩ = some (.int .u64 ((rd_T42 l0_4 (ji23)).f2.f0.f0)) ∧ w'.cell? ⟨(ad214.add (((ji23)).toNat * 6)).block, (ad214.add (((ji23)).toNat * 6)).off + 3, none⟩ = some (.int .u64 ((rd_T42 l0_4 (ji23)).f2.f0.f1)) ∧ w'.cell? ⟨(ad214.add (((ji23)).toNat * 6)).block, (ad214.add (((ji23)).toNat * 6)).off + 4, none⟩ = some (.int .i64 ((rd_T42 l0_4 (ji23)).f2.f1)) ∧ w'.cell? ⟨(ad214.add (((ji23)).toNat * 6)).block, (ad214.add (((ji23)).toNat * 6)).off + 5, none⟩ = some (.slice A217_5 ((rd_T42 l0_4 (ji23)).f2.f2).length c217_5)) (ds := []) #[false, false, false, false, false, false, false, false, false, false, false, false, false, false, false, false, false, false, false] (by kernel_rfl) rfl rfl ⟨ce BK204 0, ce BK204 1, ce BK204 2, ce BK204 3, ce BK204 4, ce BK215 0, ce BK215 1, ce BK215 2, ce BK215 3, ce BK215 4, ce BK215 5, ((HB.out.cell (World.block_lt_of_cell? w _ hw217_0)).trans hw217_0), ((HB.out.cell (World.block_lt_of_cell? w _ hw217_1)).trans hw217_1), ((HB.out.cell (World.block_lt_of_cell? w _ hw217_2)).trans hw217_2), ((HB.out.cell (World.block_lt_of_cell? w _ hw217_3)).trans hw217_3), ((HB.out.cell (World.block_lt_of_cell? w _ hw217_4)).trans hw217_4), ((HB.out.cell (World.block_lt_of_cell? w _ hw217_5)).trans hw217_5)⟩ (fun hHeld => ?_); refine with_tabW strata_Right.tab7 strata_Right.bits7 (fun HT_ HW_ => ?_)
              generalize w32.drew = w33 at HO_214004 BK204 BK213 BK215 HB HR217_5 hx217_0 hx217_1 hx217_2 hx217_3 hx217_4 hx217_5 hHeld ⊢
              refine ta 0 hHeld ?_
              refine ta 1 hHeld ?_
              refine on1 2 (fun K hK => ?_)
              refine gs Try.func38 #[.agg #[.int .u64 a0_0, .int .u64 a0_1, .int .i64 a0_2, .int .i64 a0_3, .slice (some ad214) l0_4.length c0_4], .agg #[.string ((rd_T42 l0_4 x30_2).f0), .int .u64 ((rd_T42 l0_4 x30_2).f1), .int .u64 ((rd_T42 l0_4 x30_2).f2.f0.f0), .int .u64 ((rd_T42 l0_4 x30_2).f2.f0.f1), .int .i64 ((rd_T42 l0_4 x30_2).f2.f1), .slice A214_5 ((rd_T42 l0_4 x30_2).f2.f2).length c214_5]] ?_
              with_reducible refine (strata_sound.calls k2 a0_0 a0_1 a0_2 a0_3 _ _ l0_4 ((rd_T42 l0_4 x30_2).f0) ((rd_T42 l0_4 x30_2).f1) ((rd_T42 l0_4 x30_2).f2.f0.f0) ((rd_T42 l0_4 x30_2).f2.f0.f1) ((rd_T42 l0_4 x30_2).f2.f1) _ _ ((rd_T42 l0_4 x30_2).f2.f2) true _ ?side1 ?side2 ?side3 ?side4 A20.out).mono ?_
              (case side1 => repeat (first | exact (Kd.C_below HR0_4.out HB.out) | (with_reducible refine Kd.C_alloc ?_ _) | (with_reducible refine Kd.C_drewN ?_ _) | (with_reducible refine Kd.C_drew ?_)))
              (case side2 => exact HC0_4.out)
              (case side3 => repeat (first | exact (Kd.C_below HR214_5.out HB.out) | (with_reducible refine Kd.C_alloc ?_ _) | (with_reducible refine Kd.C_drewN ?_ _) | (with_reducible refine Kd.C_drew ?_)))
              (case side4 => exact HC214_5.out)
              rintro e w34 ⟨rfl, hb⟩
              refine ⟨_, rfl, ?_⟩
              replace HO_214004 := am (Kd.V_below (pv HO_214004.out) hb)
              replace BK204 := am (blk_below (pk BK204.out) hb)
              replace BK213 := am (blk_below (pk BK213.out) hb)
              replace BK215 := am (blk_below (pk BK215.out) hb)
              replace HB := am (below_step (pb HB) hb)
              (try clear hb)
              (try clear hb2)
              (try clear hk)
              (try clear hi)
              refine hK.out _ _ ⟨ce BK204 0, ce BK204 1, ce BK204 2, ce BK204 3, ce BK204 4, ce BK215 0, ce BK215 1, ce BK215 2, ce BK215 3, ce BK215 4, ce BK215 5, ((HB.out.cell (World.block_lt_of_cell? w _ hw217_0)).trans hw217_0), ((HB.out.cell (World.block_lt_of_cell? w _ hw217_1)).trans hw217_1), ((HB.out.cell (World.block_lt_of_cell? w _ hw217_2)).trans hw217_2), ((HB.out.cell (World.block_lt_of_cell? w _ hw217_3)).trans hw217_3), ((HB.out.cell (World.block_lt_of_cell? w _ hw217_4)).trans hw217_4), ((HB.out.cell (World.block_lt_of_cell? w _ hw217_5)).trans hw217_5)⟩ (fun hHeld => ?_)
              clear hK K
              refine nm ?_
              refine pu 3 ?_
              refine pu 4 ?_
              refine pu 5 ?_
              refine pu 6 ?_
              refine pu 7 ?_
              refine pu 8 ?_
              refine pu 10 ?_
              refine pu 11 ?_
              refine ta 9 hHeld ?_
              refine pu 12 ?_
              refine ta 13 hHeld ?_
              refine ta 14 hHeld ?_
              refine on1 15 (fun K hK => ?_)
              refine goes_ Try.func39 (by kernel_rfl) rfl #[.agg #[.string ((rd_T42 l0_4 (ji23)).f0), .int .u64 ((rd_T42 l0_4 (ji23)).f1), .int .u64 ((rd_T42 l0_4 (ji23)).f2.f0.f0), .int .u64 ((rd_T42 l0_4 (ji23)).f2.f0.f1), .int .i64 ((rd_T42 l0_4 (ji23)).f2.f1), .slice A217_5 ((rd_T42 l0_4 (ji23)).f2.f2).length c217_5], .agg #[.string ((rd_T42 l0_4 x30_2).f0), .int .u64 ((rd_T42 l0_4 x30_2).f1), .int .u64 ((rd_T42 l0_4 x30_2).f2.f0.f0), .int .u64 ((rd_T42 l0_4 x30_2).f2.f0.f1), .int .i64 ((rd_T42 l0_4 x30_2).f2.f1), .slice A214_5 ((rd_T42 l0_4 x30_2).f2.f2).length c214_5]] (by rfl) rfl rfl (by (try simp only [List.map_toArray, List.map_cons, List.map_nil]); first | done | (simp only [hji23]; rfl) | rfl | (simp only [List.length_drop, List.length_take]; rfl)) ?_
              with_reducible refine (strata_compare.calls k2 ((rd_T42 l0_4 (ji23)).f0) ((rd_T42 l0_4 (ji23)).f1) ((rd_T42 l0_4 (ji23)).f2.f0.f0) ((rd_T42 l0_4 (ji23)).f2.f0.f1) ((rd_T42 l0_4 (ji23)).f2.f1) _ _ ((rd_T42 l0_4 (ji23)).f2.f2) ((rd_T42 l0_4 x30_2).f0) ((rd_T42 l0_4 x30_2).f1) ((rd_T42 l0_4 x30_2).f2.f0.f0) ((rd_T42 l0_4 x30_2).f2.f0.f1) ((rd_T42 l0_4 x30_2).f2.f1) _ _ ((rd_T42 l0_4 x30_2).f2.f2) t218 _ ?side1 ?side2 ?side3 ?side4 A26.out).mono ?_
              (case side1 => repeat (first | exact (Kd.C_below HR217_5.out HB.out) | (with_reducible refine Kd.C_alloc ?_ _) | (with_reducible refine Kd.C_drewN ?_ _) | (with_reducible refine Kd.C_drew ?_)))
              (case side2 => exact HC217_5.out)
              (case side3 => repeat (first | exact (Kd.C_below HR214_5.out HB.out) | (with_reducible refine Kd.C_alloc ?_ _) | (with_reducible refine Kd.C_drewN ?_ _) | (with_reducible refine Kd.C_drew ?_)))
              (case side4 => exact HC214_5.out)
              rintro e w35 ⟨rfl, hb⟩
              refine ⟨_, rfl, ?_⟩
              replace HO_214004 := am (Kd.V_below (pv HO_214004.out) hb)
              replace BK204 := am (blk_below (pk BK204.out) hb)
              replace BK213 := am (blk_below (pk BK213.out) hb)
              replace BK215 := am (blk_below (pk BK215.out) hb)
              replace HB := am (below_step (pb HB) hb)
              (try clear hb)
              (try clear hb2)
              (try clear hk)
              (try clear hi)
              refine hK.out _ _ ⟨ce BK204 0, ce BK204 1, ce BK204 2, ce BK204 3, ce BK204 4, ce BK215 0, ce BK215 1, ce BK215 2, ce BK215 3, ce BK215 4, ce BK215 5, ((HB.out.cell (World.block_lt_of_cell? w _ hw217_0)).trans hw217_0), ((HB.out.cell (World.block_lt_of_cell? w _ hw217_1)).trans hw217_1), ((HB.out.cell (World.block_lt_of_cell? w _ hw217_2)).trans hw217_2), ((HB.out.cell (World.block_lt_of_cell? w _ hw217_3)).trans hw217_3), ((HB.out.cell (World.block_lt_of_cell? w _ hw217_4)).trans hw217_4), ((HB.out.cell (World.block_lt_of_cell? w _ hw217_5)).trans hw217_5)⟩ (fun hHeld => ?_)
              clear hK K
              refine nm ?_
              refine pu 16 ?_
              refine pu 17 ?_
              refine pu 18 ?_
              refine done_ (done_of HT_.out (by kernel_rfl)) ?_
              try go_wp2
              go_ret
              exact ⟨by first | rfl | (simp [errW_none, errW_some] <;> rfl) | (simp only [← hji23]; first | rfl | (simp [errW_none, errW_some] <;> rfl)) | (simp [*, errW_none, errW_some] <;> rfl), pb HB⟩
             ·rw [if_neg c27] at H
              have c27b0 : decide (0 ≤ t218) = false := decide_eq_false c27
              clear c27
              have H' := am H
              clear H
              have p214 : 0 ≤ (x30_2 : Int) := of_decide_eq_true (by first | (with_reducible assumption) | assumption)
              have q214 : x30_2 < (l0_4.length : Int) := of_decide_eq_true (by first | (with_reducible assumption) | assumption)
              obtain ⟨ad214, A214_5, c214_5, e214, hx214_0, hx214_1, hx214_2, hx214_3, hx214_4, hx214_5, hl214_5, hi214_5⟩ := at_T42 HR0_4.out x30_2 p214 q214
              cases e214
              replace hx214_0 := (HB.out.cell (World.block_lt_of_cell? w _ hx214_0)).trans hx214_0
              replace hx214_1 := (HB.out.cell (World.block_lt_of_cell? w _ hx214_1)).trans hx214_1
              replace hx214_2 := (HB.out.cell (World.block_lt_of_cell? w _ hx214_2)).trans hx214_2
              replace hx214_3 := (HB.out.cell (World.block_lt_of_cell? w _ hx214_3)).trans hx214_3
              replace hx214_4 := (HB.out.cell (World.block_lt_of_cell? w _ hx214_4)).trans hx214_4
              replace hx214_5 := (HB.out.cell (World.block_lt_of_cell? w _ hx214_5)).trans hx214_5
              have HR214_5 := am hi214_5
              have HC214_5 := am hl214_5
              clear hi214_5 hl214_5
              replace p214 := eq_true p214
              replace q214 := eq_true q214
              try go_wp2_with (first | ((with_reducible refine gate_dst (N := 6) rfl ?_); (try (refine gate_guard (by rfl) ?_; dsimp only)); refine be 6 #[.string (⟨#[]⟩ : ByteArray), .int .u64 0, .int .u64 0, .int .u64 0, .int .i64 0, .slice none 0 0] 42 ?_; intro gb215 hg w36 hbox hb; replace HO_214004 := am (Kd.V_below (Kd.V_elderB (pv HO_214004.out) gb215 (Nat.le_of_eq hg.symm)) hb); have BK215 := am (hbox); have GW215 := am ((pg hg HB : w.heap.size ≤ gb215)); have GE215 := am ((pg hg HB : w.heap.size ≤ gb215)); replace HB := am (below_step (pb HB) hb); obtain ⟨NB204_215, NB215_204, hnc37, hnb37⟩ := pm hg BK204; replace BK204 := am (blk_below (pk BK204.out) hb); obtain ⟨NB213_215, NB215_213, hnc38, hnb38⟩ := pm hg BK213; replace BK213 := am (blk_below (pk BK213.out) hb); clear hb hbox hg; obtain ⟨hcz39_0, hcz39_1, hcz39_2, hcz39_3, hcz39_4, hcz39_5, hfz39_0, hfz39_1, hfz39_2, hfz39_3, hfz39_4, hfz39_5⟩ := g6 BK215))
              have n0_ : Aside0 (Kd.V k42 42 ((((((w36.setCell ⟨gb215, 0, none⟩ (.string ((rd_T42 l0_4 x30_2).f0))).setCell ⟨gb215, 1, none⟩ (.int .u64 ((rd_T42 l0_4 x30_2).f1))).setCell ⟨gb215, 2, none⟩ (.int .u64 ((rd_T42 l0_4 x30_2).f2.f0.f0))).setCell ⟨gb215, 3, none⟩ (.int .u64 ((rd_T42 l0_4 x30_2).f2.f0.f1))).setCell ⟨gb215, 4, none⟩ (.int .i64 ((rd_T42 l0_4 x30_2).f2.f1))).setCell ⟨gb215, 5, none⟩ (.slice A214_5 ((rd_T42 l0_4 x30_2).f2.f2).length c214_5)) w.heap.size (fun k_ => k_ ≠ gb204 ∧ k_ ≠ gb213 ∧ k_ ≠ gb215) (.slice Ao10 t209.length co10) t209) := ⟨by refine pv ?_; exact Kd.V_mono (Kd.V_far (p := ⟨gb215, 5, none⟩) (Kd.V_far (p := ⟨gb215, 4, none⟩) (Kd.V_far (p := ⟨gb215, 3, none⟩) (Kd.V_far (p := ⟨gb215, 2, none⟩) (Kd.V_far (p := ⟨gb215, 1, none⟩) (Kd.V_far (p := ⟨gb215, 0, none⟩) (Kd.V_mono HO_214004.out (fun k_ hk => (⟨hk, hk.2⟩ : _ ∧ k_ ≠ gb215))) (fun _ hk => hk.2) (.string ((rd_T42 l0_4 x30_2).f0))) (fun _ hk => hk.2) (.int .u64 ((rd_T42 l0_4 x30_2).f1))) (fun _ hk => hk.2) (.int .u64 ((rd_T42 l0_4 x30_2).f2.f0.f0))) (fun _ hk => hk.2) (.int .u64 ((rd_T42 l0_4 x30_2).f2.f0.f1))) (fun _ hk => hk.2) (.int .i64 ((rd_T42 l0_4 x30_2).f2.f1))) (fun _ hk => hk.2) (.slice A214_5 ((rd_T42 l0_4 x30_2).f2.f2).length c214_5)) (fun _ hk => ⟨hk.1.1.1, ⟨hk.1.1.2, hk.1.2⟩⟩)⟩
              have n1_ : Aside0 (((((((w36.setCell ⟨gb215, 0, none⟩ (.string ((rd_T42 l0_4 x30_2).f0))).setCell ⟨gb215, 1, none⟩ (.int .u64 ((rd_T42 l0_4 x30_2).f1))).setCell ⟨gb215, 2, none⟩ (.int .u64 ((rd_T42 l0_4 x30_2).f2.f0.f0))).setCell ⟨gb215, 3, none⟩ (.int .u64 ((rd_T42 l0_4 x30_2).f2.f0.f1))).setCell ⟨gb215, 4, none⟩ (.int .i64 ((rd_T42 l0_4 x30_2).f2.f1))).setCell ⟨gb215, 5, none⟩ (.slice A214_5 ((rd_T42 l0_4 x30_2).f2.f2).length c214_5)).heap[gb204]? = some (.cells #[.int .u64 a0_0, .int .u64 a0_1, .int .i64 a0_2, .int .i64 a0_3, .slice (some ad214) l0_4.length c0_4] 28 (0, 0))) := ⟨by refine pk ?_; refine blk_far ?_ NB204_215.out _; refine pk ?_; refine blk_far ?_ NB204_215.out _; refine pk ?_; refine blk_far ?_ NB204_215.out _; refine pk ?_; refine blk_far ?_ NB204_215.out _; refine pk ?_; refine blk_far ?_ NB204_215.out _; refine pk ?_; refine blk_far ?_ NB204_215.out _; refine pk ?_; exact BK204.out⟩
              have n2_ : Aside0 (((((((w36.setCell ⟨gb215, 0, none⟩ (.string ((rd_T42 l0_4 x30_2).f0))).setCell ⟨gb215, 1, none⟩ (.int .u64 ((rd_T42 l0_4 x30_2).f1))).setCell ⟨gb215, 2, none⟩ (.int .u64 ((rd_T42 l0_4 x30_2).f2.f0.f0))).setCell ⟨gb215, 3, none⟩ (.int .u64 ((rd_T42 l0_4 x30_2).f2.f0.f1))).setCell ⟨gb215, 4, none⟩ (.int .i64 ((rd_T42 l0_4 x30_2).f2.f1))).setCell ⟨gb215, 5, none⟩ (.slice A214_5 ((rd_T42 l0_4 x30_2).f2.f2).length c214_5)).heap[gb213]? = some (.cells #[.int .u64 t205, .int .u64 t206, .int .i64 t207, .int .i64 t208, .slice Ao10 t209.length co10] 28 (0, 0))) := ⟨by refine pk ?_; refine blk_far ?_ NB213_215.out _; refine pk ?_; refine blk_far ?_ NB213_215.out _; refine pk ?_; refine blk_far ?_ NB213_215.out _; refine pk ?_; refine blk_far ?_ NB213_215.out _; refine pk ?_; refine blk_far ?_ NB213_215.out _; refine pk ?_; refine blk_far ?_ NB213_215.out _; refine pk ?_; exact BK213.out⟩
              have n3_ : Aside0 (((((((w36.setCell ⟨gb215, 0, none⟩ (.string ((rd_T42 l0_4 x30_2).f0))).setCell ⟨gb215, 1, none⟩ (.int .u64 ((rd_T42 l0_4 x30_2).f1))).setCell ⟨gb215, 2, none⟩ (.int .u64 ((rd_T42 l0_4 x30_2).f2.f0.f0))).setCell ⟨gb215, 3, none⟩ (.int .u64 ((rd_T42 l0_4 x30_2).f2.f0.f1))).setCell ⟨gb215, 4, none⟩ (.int .i64 ((rd_T42 l0_4 x30_2).f2.f1))).setCell ⟨gb215, 5, none⟩ (.slice A214_5 ((rd_T42 l0_4 x30_2).f2.f2).length c214_5)).heap[gb215]? = some (.cells #[.string ((rd_T42 l0_4 x30_2).f0), .int .u64 ((rd_T42 l0_4 x30_2).f1), .int .u64 ((rd_T42 l0_4 x30_2).f2.f0.f0), .int .u64 ((rd_T42 l0_4 x30_2).f2.f0.f1), .int .i64 ((rd_T42 l0_4 x30_2).f2.f1), .slice A214_5 ((rd_T42 l0_4 x30_2).f2.f2).length c214_5] 42 (0, 0))) := ⟨by refine pk ?_; refine blk_put (cs := #[.string ((rd_T42 l0_4 x30_2).f0), .int .u64 ((rd_T42 l0_4 x30_2).f1), .int .u64 ((rd_T42 l0_4 x30_2).f2.f0.f0), .int .u64 ((rd_T42 l0_4 x30_2).f2.f0.f1), .int .i64 ((rd_T42 l0_4 x30_2).f2.f1), .slice none 0 0]) ?_ 5 _ rfl; refine pk ?_; refine blk_put (cs := #[.string ((rd_T42 l0_4 x30_2).f0), .int .u64 ((rd_T42 l0_4 x30_2).f1), .int .u64 ((rd_T42 l0_4 x30_2).f2.f0.f0), .int .u64 ((rd_T42 l0_4 x30_2).f2.f0.f1), .int .i64 0, .slice none 0 0]) ?_ 4 _ rfl; refine pk ?_; refine blk_put (cs := #[.string ((rd_T42 l0_4 x30_2).f0), .int .u64 ((rd_T42 l0_4 x30_2).f1), .int .u64 ((rd_T42 l0_4 x30_2).f2.f0.f0), .int .u64 0, .int .i64 0, .slice none 0 0]) ?_ 3 _ rfl; refine pk ?_; refine blk_put (cs := #[.string ((rd_T42 l0_4 x30_2).f0), .int .u64 ((rd_T42 l0_4 x30_2).f1), .int .u64 0, .int .u64 0, .int .i64 0, .slice none 0 0]) ?_ 2 _ rfl; refine pk ?_; refine blk_put (cs := #[.string ((rd_T42 l0_4 x30_2).f0), .int .u64 0, .int .u64 0, .int .u64 0, .int .i64 0, .slice none 0 0]) ?_ 1 _ rfl; refine pk ?_; refine blk_put (cs := #[.string (⟨#[]⟩ : ByteArray), .int .u64 0, .int .u64 0, .int .u64 0, .int .i64 0, .slice none 0 0]) ?_ 0 _ rfl; refine pk ?_; exact BK215.out⟩
              have n4_ : Aside0 (Below w.heap.size w ((((((w36.setCell ⟨gb215, 0, none⟩ (.string ((rd_T42 l0_4 x30_2).f0))).setCell ⟨gb215, 1, none⟩ (.int .u64 ((rd_T42 l0_4 x30_2).f1))).setCell ⟨gb215, 2, none⟩ (.int .u64 ((rd_T42 l0_4 x30_2).f2.f0.f0))).setCell ⟨gb215, 3, none⟩ (.int .u64 ((rd_T42 l0_4 x30_2).f2.f0.f1))).setCell ⟨gb215, 4, none⟩ (.int .i64 ((rd_T42 l0_4 x30_2).f2.f1))).setCell ⟨gb215, 5, none⟩ (.slice A214_5 ((rd_T42 l0_4 x30_2).f2.f2).length c214_5))) := ⟨pb HB⟩
              (try clear HO_214004)
              (try clear BK204)
              (try clear BK213)
              (try clear BK215)
              (try clear HB)
              generalize ((((((w36.setCell ⟨gb215, 0, none⟩ (.string ((rd_T42 l0_4 x30_2).f0))).setCell ⟨gb215, 1, none⟩ (.int .u64 ((rd_T42 l0_4 x30_2).f1))).setCell ⟨gb215, 2, none⟩ (.int .u64 ((rd_T42 l0_4 x30_2).f2.f0.f0))).setCell ⟨gb215, 3, none⟩ (.int .u64 ((rd_T42 l0_4 x30_2).f2.f0.f1))).setCell ⟨gb215, 4, none⟩ (.int .i64 ((rd_T42 l0_4 x30_2).f2.f1))).setCell ⟨gb215, 5, none⟩ (.slice A214_5 ((rd_T42 l0_4 x30_2).f2.f2).length c214_5)) = w40 at n0_ n1_ n2_ n3_ n4_ ⊢
              have HO_214004 := n0_
              have BK204 := n1_
              have BK213 := n2_
              have BK215 := n3_
              have HB := n4_
              clear n0_ n1_ n2_ n3_ n4_
              replace HO_214004 := am (Kd.V_drew HO_214004.out)
              replace BK204 := am (blk_drew BK204.out)
              replace BK213 := am (blk_drew BK213.out)
              replace BK215 := am (blk_drew BK215.out)
              replace HB := am (below_drew1 HB.out)
              have p217 : 0 ≤ ((ji23) : Int) := of_decide_eq_true (by first | (with_reducible assumption) | assumption)
              have q217 : (ji23) < (l0_4.length : Int) := of_decide_eq_true (by first | (with_reducible assumption) | assumption)
              obtain ⟨ad217, A217_5, c217_5, e217, hx217_0, hx217_1, hx217_2, hx217_3, hx217_4, hx217_5, hl217_5, hi217_5⟩ := at_T42 HR0_4.out (ji23) p217 q217
              have hw217_5 := hx217_5
              have hw217_4 := hx217_4
              have hw217_3 := hx217_3
              have hw217_2 := hx217_2
              have hw217_1 := hx217_1
              have hw217_0 := hx217_0
              obtain rfl : ad214 = ad217 := (by injection e217)
              replace hx217_0 := (HB.out.cell (World.block_lt_of_cell? w _ hx217_0)).trans hx217_0
              replace hx217_1 := (HB.out.cell (World.block_lt_of_cell? w _ hx217_1)).trans hx217_1
              replace hx217_2 := (HB.out.cell (World.block_lt_of_cell? w _ hx217_2)).trans hx217_2
              replace hx217_3 := (HB.out.cell (World.block_lt_of_cell? w _ hx217_3)).trans hx217_3
              replace hx217_4 := (HB.out.cell (World.block_lt_of_cell? w _ hx217_4)).trans hx217_4
              replace hx217_5 := (HB.out.cell (World.block_lt_of_cell? w _ hx217_5)).trans hx217_5
              have HR217_5 := am hi217_5
              have HC217_5 := am hl217_5
              clear hi217_5 hl217_5
              replace p217 := eq_true p217
              replace q217 := eq_true q217
              refine start_ (n := 19) (S := fun w' => w'.cell? ⟨gb204, 0, none⟩ = some (.int .u64 a0_0) ∧ w'.cell? ⟨gb204, 1, none⟩ = some (.int .u64 a0_1) ∧ w'.cell? ⟨gb204, 2, none⟩ = some (.int .i64 a0_2) ∧ w'.cell? ⟨gb204, 3, none⟩ = some (.int .i64 a0_3) ∧ w'.cell? ⟨gb204, 4, none⟩ = some (.slice (some ad214) l0_4.length c0_4) ∧ w'.cell? ⟨gb215, 0, none⟩ = some (.string ((rd_T42 l0_4 x30_2).f0)) ∧ w'.cell? ⟨gb215, 1, none⟩ = some (.int .u64 ((rd_T42 l0_4 x30_2).f1)) ∧ w'.cell? ⟨gb215, 2, none⟩ = some (.int .u64 ((rd_T42 l0_4 x30_2).f2.f0.f0)) ∧ w'.cell? ⟨gb215, 3, none⟩ = some (.int .u64 ((rd_T42 l0_4 x30_2).f2.f0.f1)) ∧ w'.cell? ⟨gb215, 4, none⟩ = some (.int .i64 ((rd_T42 l0_4 x30_2).f2.f1)) ∧ w'.cell? ⟨gb215, 5, none⟩ = some (.slice A214_5 ((rd_T42 l0_4 x30_2).f2.f2).length c214_5) ∧ w'.cell? (ad214.add (((ji23)).toNat * 6)) = some (.string ((rd_T42 l0_4 (ji23)).f0)) ∧ w'.cell? ⟨(ad214.add (((ji23)).toNat * 6)).block, (ad214.add (((ji23)).toNat * 6)).off + 1, none⟩ = some (.int .u64 ((rd_T42 l0_4 (ji23)).f1)) ∧ w'.cell? ⟨(ad214.add (((ji23)).toNat * 6)).block, (ad214.add (((ji23)).toNat * 6)).off + 2, none⟩ = some (.int .u64 ((rd_T42 l0_4 (ji23)).f2.f0.f0)) ∧ w'.cell? ⟨(ad214.add (((ji23)).toNat * 6)).block, (ad214.add (((ji23)).toNat * 6)).off + 3, none⟩ = some (.int .u64 ((rd_T42 l0_4 (ji23)).f2.f0.f1)) ∧ w'.cell? ⟨(ad214.add (((ji23)).toNat * 6)).block, (ad214.add (((ji23)).toNat * 6)).off + 4, none⟩ = some (.int .i64 ((rd_T42 l0_4 (ji23)).f2.f1)) ∧ w'.cell? ⟨(ad214.add (((ji23)).toNat * 6)).block, (ad214.add (((ji23)).toNat * 6)).off + 5, none⟩ = some (.slice A217_5 ((rd_T42 l0_4 (ji23)).f2.f2).length c217_5)) (ds := []) #[false, false, false, false, false, false, false, false, false, false, false, false, false, false, false, false, false, false, false] (by kernel_rfl) rfl rfl ⟨ce BK204 0, ce BK204 1, ce BK204 2, ce BK204 3, ce BK204 4, ce BK215 0, ce BK215 1, ce BK215 2, ce BK215 3, ce BK215 4, ce BK215 5, ((HB.out.cell (World.block_lt_of_cell? w _ hw217_0)).trans hw217_0), ((HB.out.cell (World.block_lt_of_cell? w _ hw217_1)).trans hw217_1), ((HB.out.cell (World.block_lt_of_cell? w _ hw217_2)).trans hw217_2), ((HB.out.cell (World.block_lt_of_cell? w _ hw217_3)).trans hw217_3), ((HB.out.cell (World.block_lt_of_cell? w _ hw217_4)).trans hw217_4), ((HB.out.cell (World.block_lt_of_cell? w _ hw217_5)).trans hw217_5)⟩ (fun hHeld => ?_); refine with_tabW strata_Right.tab7 strata_Right.bits7 (fun HT_ HW_ => ?_)
              generalize w40.drew = w41 at HO_214004 BK204 BK213 BK215 HB HR217_5 hx217_0 hx217_1 hx217_2 hx217_3 hx217_4 hx217_5 hHeld ⊢
              refine ta 0 hHeld ?_
              refine ta 1 hHeld ?_
              refine on1 2 (fun K hK => ?_)
              refine gs Try.func38 #[.agg #[.int .u64 a0_0, .int .u64 a0_1, .int .i64 a0_2, .int .i64 a0_3, .slice (some ad214) l0_4.length c0_4], .agg #[.string ((rd_T42 l0_4 x30_2).f0), .int .u64 ((rd_T42 l0_4 x30_2).f1), .int .u64 ((rd_T42 l0_4 x30_2).f2.f0.f0), .int .u64 ((rd_T42 l0_4 x30_2).f2.f0.f1), .int .i64 ((rd_T42 l0_4 x30_2).f2.f1), .slice A214_5 ((rd_T42 l0_4 x30_2).f2.f2).length c214_5]] ?_
              with_reducible refine (strata_sound.calls k2 a0_0 a0_1 a0_2 a0_3 _ _ l0_4 ((rd_T42 l0_4 x30_2).f0) ((rd_T42 l0_4 x30_2).f1) ((rd_T42 l0_4 x30_2).f2.f0.f0) ((rd_T42 l0_4 x30_2).f2.f0.f1) ((rd_T42 l0_4 x30_2).f2.f1) _ _ ((rd_T42 l0_4 x30_2).f2.f2) true _ ?side1 ?side2 ?side3 ?side4 A20.out).mono ?_
              (case side1 => repeat (first | exact (Kd.C_below HR0_4.out HB.out) | (with_reducible refine Kd.C_alloc ?_ _) | (with_reducible refine Kd.C_drewN ?_ _) | (with_reducible refine Kd.C_drew ?_)))
              (case side2 => exact HC0_4.out)
              (case side3 => repeat (first | exact (Kd.C_below HR214_5.out HB.out) | (with_reducible refine Kd.C_alloc ?_ _) | (with_reducible refine Kd.C_drewN ?_ _) | (with_reducible refine Kd.C_drew ?_)))
              (case side4 => exact HC214_5.out)
              rintro e w42 ⟨rfl, hb⟩
              refine ⟨_, rfl, ?_⟩
              replace HO_214004 := am (Kd.V_below (pv HO_214004.out) hb)
              replace BK204 := am (blk_below (pk BK204.out) hb)
              replace BK213 := am (blk_below (pk BK213.out) hb)
              replace BK215 := am (blk_below (pk BK215.out) hb)
              replace HB := am (below_step (pb HB) hb)
              (try clear hb)
              (try clear hb2)
              (try clear hk)
              (try clear hi)
              refine hK.out _ _ ⟨ce BK204 0, ce BK204 1, ce BK204 2, ce BK204 3, ce BK204 4, ce BK215 0, ce BK215 1, ce BK215 2, ce BK215 3, ce BK215 4, ce BK215 5, ((HB.out.cell (World.block_lt_of_cell? w _ hw217_0)).trans hw217_0), ((HB.out.cell (World.block_lt_of_cell? w _ hw217_1)).trans hw217_1), ((HB.out.cell (World.block_lt_of_cell? w _ hw217_2)).trans hw217_2), ((HB.out.cell (World.block_lt_of_cell? w _ hw217_3)).trans hw217_3), ((HB.out.cell (World.block_lt_of_cell? w _ hw217_4)).trans hw217_4), ((HB.out.cell (World.block_lt_of_cell? w _ hw217_5)).trans hw217_5)⟩ (fun hHeld => ?_)
              clear hK K
              refine nm ?_
              refine pu 3 ?_
              refine pu 4 ?_
              refine pu 5 ?_
              refine pu 6 ?_
              refine pu 7 ?_
              refine pu 8 ?_
              refine pu 10 ?_
              refine pu 11 ?_
              refine ta 9 hHeld ?_
              refine pu 12 ?_
              refine ta 13 hHeld ?_
              refine ta 14 hHeld ?_
              refine on1 15 (fun K hK => ?_)
              refine goes_ Try.func39 (by kernel_rfl) rfl #[.agg #[.string ((rd_T42 l0_4 (ji23)).f0), .int .u64 ((rd_T42 l0_4 (ji23)).f1), .int .u64 ((rd_T42 l0_4 (ji23)).f2.f0.f0), .int .u64 ((rd_T42 l0_4 (ji23)).f2.f0.f1), .int .i64 ((rd_T42 l0_4 (ji23)).f2.f1), .slice A217_5 ((rd_T42 l0_4 (ji23)).f2.f2).length c217_5], .agg #[.string ((rd_T42 l0_4 x30_2).f0), .int .u64 ((rd_T42 l0_4 x30_2).f1), .int .u64 ((rd_T42 l0_4 x30_2).f2.f0.f0), .int .u64 ((rd_T42 l0_4 x30_2).f2.f0.f1), .int .i64 ((rd_T42 l0_4 x30_2).f2.f1), .slice A214_5 ((rd_T42 l0_4 x30_2).f2.f2).length c214_5]] (by rfl) rfl rfl (by (try simp only [List.map_toArray, List.map_cons, List.map_nil]); first | done | (simp only [hji23]; rfl) | rfl | (simp only [List.length_drop, List.length_take]; rfl)) ?_
              with_reducible refine (strata_compare.calls k2 ((rd_T42 l0_4 (ji23)).f0) ((rd_T42 l0_4 (ji23)).f1) ((rd_T42 l0_4 (ji23)).f2.f0.f0) ((rd_T42 l0_4 (ji23)).f2.f0.f1) ((rd_T42 l0_4 (ji23)).f2.f1) _ _ ((rd_T42 l0_4 (ji23)).f2.f2) ((rd_T42 l0_4 x30_2).f0) ((rd_T42 l0_4 x30_2).f1) ((rd_T42 l0_4 x30_2).f2.f0.f0) ((rd_T42 l0_4 x30_2).f2.f0.f1) ((rd_T42 l0_4 x30_2).f2.f1) _ _ ((rd_T42 l0_4 x30_2).f2.f2) t218 _ ?side1 ?side2 ?side3 ?side4 A26.out).mono ?_
              (case side1 => repeat (first | exact (Kd.C_below HR217_5.out HB.out) | (with_reducible refine Kd.C_alloc ?_ _) | (with_reducible refine Kd.C_drewN ?_ _) | (with_reducible refine Kd.C_drew ?_)))
              (case side2 => exact HC217_5.out)
              (case side3 => repeat (first | exact (Kd.C_below HR214_5.out HB.out) | (with_reducible refine Kd.C_alloc ?_ _) | (with_reducible refine Kd.C_drewN ?_ _) | (with_reducible refine Kd.C_drew ?_)))
              (case side4 => exact HC214_5.out)
              rintro e w43 ⟨rfl, hb⟩
              refine ⟨_, rfl, ?_⟩
              replace HO_214004 := am (Kd.V_below (pv HO_214004.out) hb)
              replace BK204 := am (blk_below (pk BK204.out) hb)
              replace BK213 := am (blk_below (pk BK213.out) hb)
              replace BK215 := am (blk_below (pk BK215.out) hb)
              replace HB := am (below_step (pb HB) hb)
              (try clear hb)
              (try clear hb2)
              (try clear hk)
              (try clear hi)
              refine hK.out _ _ ⟨ce BK204 0, ce BK204 1, ce BK204 2, ce BK204 3, ce BK204 4, ce BK215 0, ce BK215 1, ce BK215 2, ce BK215 3, ce BK215 4, ce BK215 5, ((HB.out.cell (World.block_lt_of_cell? w _ hw217_0)).trans hw217_0), ((HB.out.cell (World.block_lt_of_cell? w _ hw217_1)).trans hw217_1), ((HB.out.cell (World.block_lt_of_cell? w _ hw217_2)).trans hw217_2), ((HB.out.cell (World.block_lt_of_cell? w _ hw217_3)).trans hw217_3), ((HB.out.cell (World.block_lt_of_cell? w _ hw217_4)).trans hw217_4), ((HB.out.cell (World.block_lt_of_cell? w _ hw217_5)).trans hw217_5)⟩ (fun hHeld => ?_)
              clear hK K
              refine nm ?_
              refine pu 16 ?_
              refine pu 17 ?_
              refine pu 18 ?_
              refine done_ (done_of HT_.out (by kernel_rfl)) ?_
              try go_wp2
              go_roundg k2
              case measure => have := HJ2.out; have := HK2.out; omega
              case rel => exact ⟨(wrap64 (x30_2 + 1)), (by first | rfl | (simp; done) | (simp [*]; done)), H', ⟨by have := HJ2.out; have := HK2.out; omega⟩, ⟨by refine pv ?_; exact Kd.V_mono HO_214004.out (fun _ hk => ⟨hk.1, hk.2.1⟩)⟩, ⟨pk BK204.out⟩, ⟨pk BK213.out⟩, ⟨pb HB⟩⟩
            ·rw [if_neg c25] at H
             exact absurd H (by simp)
           ·rw [if_neg c24] at H
            exact absurd H (by simp)
          ·rw [if_neg c22] at H
           have c22b0 : decide (0 < x30_2) = false := decide_eq_false c22
           clear c22
           have H' := am H
           clear H
           have p214 : 0 ≤ (x30_2 : Int) := of_decide_eq_true (by first | (with_reducible assumption) | assumption)
           have q214 : x30_2 < (l0_4.length : Int) := of_decide_eq_true (by first | (with_reducible assumption) | assumption)
           obtain ⟨ad214, A214_5, c214_5, e214, hx214_0, hx214_1, hx214_2, hx214_3, hx214_4, hx214_5, hl214_5, hi214_5⟩ := at_T42 HR0_4.out x30_2 p214 q214
           cases e214
           replace hx214_0 := (HB.out.cell (World.block_lt_of_cell? w _ hx214_0)).trans hx214_0
           replace hx214_1 := (HB.out.cell (World.block_lt_of_cell? w _ hx214_1)).trans hx214_1
           replace hx214_2 := (HB.out.cell (World.block_lt_of_cell? w _ hx214_2)).trans hx214_2
           replace hx214_3 := (HB.out.cell (World.block_lt_of_cell? w _ hx214_3)).trans hx214_3
           replace hx214_4 := (HB.out.cell (World.block_lt_of_cell? w _ hx214_4)).trans hx214_4
           replace hx214_5 := (HB.out.cell (World.block_lt_of_cell? w _ hx214_5)).trans hx214_5
           have HR214_5 := am hi214_5
           have HC214_5 := am hl214_5
           clear hi214_5 hl214_5
           replace p214 := eq_true p214
           replace q214 := eq_true q214
           try go_wp2_with (first | ((with_reducible refine gate_dst (N := 6) rfl ?_); (try (refine gate_guard (by rfl) ?_; dsimp only)); refine be 6 #[.string (⟨#[]⟩ : ByteArray), .int .u64 0, .int .u64 0, .int .u64 0, .int .i64 0, .slice none 0 0] 42 ?_; intro gb215 hg w44 hbox hb; replace HO_214004 := am (Kd.V_below (Kd.V_elderB (pv HO_214004.out) gb215 (Nat.le_of_eq hg.symm)) hb); have BK215 := am (hbox); have GW215 := am ((pg hg HB : w.heap.size ≤ gb215)); have GE215 := am ((pg hg HB : w.heap.size ≤ gb215)); replace HB := am (below_step (pb HB) hb); obtain ⟨NB204_215, NB215_204, hnc45, hnb45⟩ := pm hg BK204; replace BK204 := am (blk_below (pk BK204.out) hb); obtain ⟨NB213_215, NB215_213, hnc46, hnb46⟩ := pm hg BK213; replace BK213 := am (blk_below (pk BK213.out) hb); clear hb hbox hg; obtain ⟨hcz47_0, hcz47_1, hcz47_2, hcz47_3, hcz47_4, hcz47_5, hfz47_0, hfz47_1, hfz47_2, hfz47_3, hfz47_4, hfz47_5⟩ := g6 BK215))
           have n0_ : Aside0 (Kd.V k42 42 ((((((w44.setCell ⟨gb215, 0, none⟩ (.string ((rd_T42 l0_4 x30_2).f0))).setCell ⟨gb215, 1, none⟩ (.int .u64 ((rd_T42 l0_4 x30_2).f1))).setCell ⟨gb215, 2, none⟩ (.int .u64 ((rd_T42 l0_4 x30_2).f2.f0.f0))).setCell ⟨gb215, 3, none⟩ (.int .u64 ((rd_T42 l0_4 x30_2).f2.f0.f1))).setCell ⟨gb215, 4, none⟩ (.int .i64 ((rd_T42 l0_4 x30_2).f2.f1))).setCell ⟨gb215, 5, none⟩ (.slice A214_5 ((rd_T42 l0_4 x30_2).f2.f2).length c214_5)) w.heap.size (fun k_ => k_ ≠ gb204 ∧ k_ ≠ gb213 ∧ k_ ≠ gb215) (.slice Ao10 t209.length co10) t209) := ⟨by refine pv ?_; exact Kd.V_mono (Kd.V_far (p := ⟨gb215, 5, none⟩) (Kd.V_far (p := ⟨gb215, 4, none⟩) (Kd.V_far (p := ⟨gb215, 3, none⟩) (Kd.V_far (p := ⟨gb215, 2, none⟩) (Kd.V_far (p := ⟨gb215, 1, none⟩) (Kd.V_far (p := ⟨gb215, 0, none⟩) (Kd.V_mono HO_214004.out (fun k_ hk => (⟨hk, hk.2⟩ : _ ∧ k_ ≠ gb215))) (fun _ hk => hk.2) (.string ((rd_T42 l0_4 x30_2).f0))) (fun _ hk => hk.2) (.int .u64 ((rd_T42 l0_4 x30_2).f1))) (fun _ hk => hk.2) (.int .u64 ((rd_T42 l0_4 x30_2).f2.f0.f0))) (fun _ hk => hk.2) (.int .u64 ((rd_T42 l0_4 x30_2).f2.f0.f1))) (fun _ hk => hk.2) (.int .i64 ((rd_T42 l0_4 x30_2).f2.f1))) (fun _ hk => hk.2) (.slice A214_5 ((rd_T42 l0_4 x30_2).f2.f2).length c214_5)) (fun _ hk => ⟨hk.1.1.1, ⟨hk.1.1.2, hk.1.2⟩⟩)⟩
           have n1_ : Aside0 (((((((w44.setCell ⟨gb215, 0, none⟩ (.string ((rd_T42 l0_4 x30_2).f0))).setCell ⟨gb215, 1, none⟩ (.int .u64 ((rd_T42 l0_4 x30_2).f1))).setCell ⟨gb215, 2, none⟩ (.int .u64 ((rd_T42 l0_4 x30_2).f2.f0.f0))).setCell ⟨gb215, 3, none⟩ (.int .u64 ((rd_T42 l0_4 x30_2).f2.f0.f1))).setCell ⟨gb215, 4, none⟩ (.int .i64 ((rd_T42 l0_4 x30_2).f2.f1))).setCell ⟨gb215, 5, none⟩ (.slice A214_5 ((rd_T42 l0_4 x30_2).f2.f2).length c214_5)).heap[gb204]? = some (.cells #[.int .u64 a0_0, .int .u64 a0_1, .int .i64 a0_2, .int .i64 a0_3, .slice (some ad214) l0_4.length c0_4] 28 (0, 0))) := ⟨by refine pk ?_; refine blk_far ?_ NB204_215.out _; refine pk ?_; refine blk_far ?_ NB204_215.out _; refine pk ?_; refine blk_far ?_ NB204_215.out _; refine pk ?_; refine blk_far ?_ NB204_215.out _; refine pk ?_; refine blk_far ?_ NB204_215.out _; refine pk ?_; refine blk_far ?_ NB204_215.out _; refine pk ?_; exact BK204.out⟩
           have n2_ : Aside0 (((((((w44.setCell ⟨gb215, 0, none⟩ (.string ((rd_T42 l0_4 x30_2).f0))).setCell ⟨gb215, 1, none⟩ (.int .u64 ((rd_T42 l0_4 x30_2).f1))).setCell ⟨gb215, 2, none⟩ (.int .u64 ((rd_T42 l0_4 x30_2).f2.f0.f0))).setCell ⟨gb215, 3, none⟩ (.int .u64 ((rd_T42 l0_4 x30_2).f2.f0.f1))).setCell ⟨gb215, 4, none⟩ (.int .i64 ((rd_T42 l0_4 x30_2).f2.f1))).setCell ⟨gb215, 5, none⟩ (.slice A214_5 ((rd_T42 l0_4 x30_2).f2.f2).length c214_5)).heap[gb213]? = some (.cells #[.int .u64 t205, .int .u64 t206, .int .i64 t207, .int .i64 t208, .slice Ao10 t209.length co10] 28 (0, 0))) := ⟨by refine pk ?_; refine blk_far ?_ NB213_215.out _; refine pk ?_; refine blk_far ?_ NB213_215.out _; refine pk ?_; refine blk_far ?_ NB213_215.out _; refine pk ?_; refine blk_far ?_ NB213_215.out _; refine pk ?_; refine blk_far ?_ NB213_215.out _; refine pk ?_; refine blk_far ?_ NB213_215.out _; refine pk ?_; exact BK213.out⟩
           have n3_ : Aside0 (((((((w44.setCell ⟨gb215, 0, none⟩ (.string ((rd_T42 l0_4 x30_2).f0))).setCell ⟨gb215, 1, none⟩ (.int .u64 ((rd_T42 l0_4 x30_2).f1))).setCell ⟨gb215, 2, none⟩ (.int .u64 ((rd_T42 l0_4 x30_2).f2.f0.f0))).setCell ⟨gb215, 3, none⟩ (.int .u64 ((rd_T42 l0_4 x30_2).f2.f0.f1))).setCell ⟨gb215, 4, none⟩ (.int .i64 ((rd_T42 l0_4 x30_2).f2.f1))).setCell ⟨gb215, 5, none⟩ (.slice A214_5 ((rd_T42 l0_4 x30_2).f2.f2).length c214_5)).heap[gb215]? = some (.cells #[.string ((rd_T42 l0_4 x30_2).f0), .int .u64 ((rd_T42 l0_4 x30_2).f1), .int .u64 ((rd_T42 l0_4 x30_2).f2.f0.f0), .int .u64 ((rd_T42 l0_4 x30_2).f2.f0.f1), .int .i64 ((rd_T42 l0_4 x30_2).f2.f1), .slice A214_5 ((rd_T42 l0_4 x30_2).f2.f2).length c214_5] 42 (0, 0))) := ⟨by refine pk ?_; refine blk_put (cs := #[.string ((rd_T42 l0_4 x30_2).f0), .int .u64 ((rd_T42 l0_4 x30_2).f1), .int .u64 ((rd_T42 l0_4 x30_2).f2.f0.f0), .int .u64 ((rd_T42 l0_4 x30_2).f2.f0.f1), .int .i64 ((rd_T42 l0_4 x30_2).f2.f1), .slice none 0 0]) ?_ 5 _ rfl; refine pk ?_; refine blk_put (cs := #[.string ((rd_T42 l0_4 x30_2).f0), .int .u64 ((rd_T42 l0_4 x30_2).f1), .int .u64 ((rd_T42 l0_4 x30_2).f2.f0.f0), .int .u64 ((rd_T42 l0_4 x30_2).f2.f0.f1), .int .i64 0, .slice none 0 0]) ?_ 4 _ rfl; refine pk ?_; refine blk_put (cs := #[.string ((rd_T42 l0_4 x30_2).f0), .int .u64 ((rd_T42 l0_4 x30_2).f1), .int .u64 ((rd_T42 l0_4 x30_2).f2.f0.f0), .int .u64 0, .int .i64 0, .slice none 0 0]) ?_ 3 _ rfl; refine pk ?_; refine blk_put (cs := #[.string ((rd_T42 l0_4 x30_2).f0), .int .u64 ((rd_T42 l0_4 x30_2).f1), .int .u64 0, .int .u64 0, .int .i64 0, .slice none 0 0]) ?_ 2 _ rfl; refine pk ?_; refine blk_put (cs := #[.string ((rd_T42 l0_4 x30_2).f0), .int .u64 0, .int .u64 0, .int .u64 0, .int .i64 0, .slice none 0 0]) ?_ 1 _ rfl; refine pk ?_; refine blk_put (cs := #[.string (⟨#[]⟩ : ByteArray), .int .u64 0, .int .u64 0, .int .u64 0, .int .i64 0, .slice none 0 0]) ?_ 0 _ rfl; refine pk ?_; exact BK215.out⟩
           have n4_ : Aside0 (Below w.heap.size w ((((((w44.setCell ⟨gb215, 0, none⟩ (.string ((rd_T42 l0_4 x30_2).f0))).setCell ⟨gb215, 1, none⟩ (.int .u64 ((rd_T42 l0_4 x30_2).f1))).setCell ⟨gb215, 2, none⟩ (.int .u64 ((rd_T42 l0_4 x30_2).f2.f0.f0))).setCell ⟨gb215, 3, none⟩ (.int .u64 ((rd_T42 l0_4 x30_2).f2.f0.f1))).setCell ⟨gb215, 4, none⟩ (.int .i64 ((rd_T42 l0_4 x30_2).f2.f1))).setCell ⟨gb215, 5, none⟩ (.slice A214_5 ((rd_T42 l0_4 x30_2).f2.f2).length c214_5))) := ⟨pb HB⟩
           (try clear HO_214004)
           (try clear BK204)
           (try clear BK213)
           (try clear BK215)
           (try clear HB)
           generalize ((((((w44.setCell ⟨gb215, 0, none⟩ (.string ((rd_T42 l0_4 x30_2).f0))).setCell ⟨gb215, 1, none⟩ (.int .u64 ((rd_T42 l0_4 x30_2).f1))).setCell ⟨gb215, 2, none⟩ (.int .u64 ((rd_T42 l0_4 x30_2).f2.f0.f0))).setCell ⟨gb215, 3, none⟩ (.int .u64 ((rd_T42 l0_4 x30_2).f2.f0.f1))).setCell ⟨gb215, 4, none⟩ (.int .i64 ((rd_T42 l0_4 x30_2).f2.f1))).setCell ⟨gb215, 5, none⟩ (.slice A214_5 ((rd_T42 l0_4 x30_2).f2.f2).length c214_5)) = w48 at n0_ n1_ n2_ n3_ n4_ ⊢
           have HO_214004 := n0_
           have BK204 := n1_
           have BK213 := n2_
           have BK215 := n3_
           have HB := n4_
           clear n0_ n1_ n2_ n3_ n4_
           replace HO_214004 := am (Kd.V_drew HO_214004.out)
           replace BK204 := am (blk_drew BK204.out)
           replace BK213 := am (blk_drew BK213.out)
           replace BK215 := am (blk_drew BK215.out)
           replace HB := am (below_drew1 HB.out)
           refine start_ (n := 19) (S := fun w' => w'.cell? ⟨gb204, 0, none⟩ = some (.int .u64 a0_0) ∧ w'.cell? ⟨gb204, 1, none⟩ = some (.int .u64 a0_1) ∧ w'.cell? ⟨gb204, 2, none⟩ = some (.int .i64 a0_2) ∧ w'.cell? ⟨gb204, 3, none⟩ = some (.int .i64 a0_3) ∧ w'.cell? ⟨gb204, 4, none⟩ = some (.slice (some ad214) l0_4.length c0_4) ∧ w'.cell? ⟨gb215, 0, none⟩ = some (.string ((rd_T42 l0_4 x30_2).f0)) ∧ w'.cell? ⟨gb215, 1, none⟩ = some (.int .u64 ((rd_T42 l0_4 x30_2).f1)) ∧ w'.cell? ⟨gb215, 2, none⟩ = some (.int .u64 ((rd_T42 l0_4 x30_2).f2.f0.f0)) ∧ w'.cell? ⟨gb215, 3, none⟩ = some (.int .u64 ((rd_T42 l0_4 x30_2).f2.f0.f1)) ∧ w'.cell? ⟨gb215, 4, none⟩ = some (.int .i64 ((rd_T42 l0_4 x30_2).f2.f1)) ∧ w'.cell? ⟨gb215, 5, none⟩ = some (.slice A214_5 ((rd_T42 l0_4 x30_2).f2.f2).length c214_5)) (ds := []) #[false, false, false, false, false, false, false, false, false, false, false, false, false, false, false, false, false, false, false] (by kernel_rfl) rfl rfl ⟨ce BK204 0, ce BK204 1, ce BK204 2, ce BK204 3, ce BK204 4, ce BK215 0, ce BK215 1, ce BK215 2, ce BK215 3, ce BK215 4, ce BK215 5⟩ (fun hHeld => ?_); refine with_tabW strata_Right.tab7 strata_Right.bits7 (fun HT_ HW_ => ?_)
           generalize w48.drew = w49 at HO_214004 BK204 BK213 BK215 HB hHeld ⊢
           refine ta 0 hHeld ?_
           refine ta 1 hHeld ?_
           refine on1 2 (fun K hK => ?_)
           refine gs Try.func38 #[.agg #[.int .u64 a0_0, .int .u64 a0_1, .int .i64 a0_2, .int .i64 a0_3, .slice (some ad214) l0_4.length c0_4], .agg #[.string ((rd_T42 l0_4 x30_2).f0), .int .u64 ((rd_T42 l0_4 x30_2).f1), .int .u64 ((rd_T42 l0_4 x30_2).f2.f0.f0), .int .u64 ((rd_T42 l0_4 x30_2).f2.f0.f1), .int .i64 ((rd_T42 l0_4 x30_2).f2.f1), .slice A214_5 ((rd_T42 l0_4 x30_2).f2.f2).length c214_5]] ?_
           with_reducible refine (strata_sound.calls k2 a0_0 a0_1 a0_2 a0_3 _ _ l0_4 ((rd_T42 l0_4 x30_2).f0) ((rd_T42 l0_4 x30_2).f1) ((rd_T42 l0_4 x30_2).f2.f0.f0) ((rd_T42 l0_4 x30_2).f2.f0.f1) ((rd_T42 l0_4 x30_2).f2.f1) _ _ ((rd_T42 l0_4 x30_2).f2.f2) true _ ?side1 ?side2 ?side3 ?side4 A20.out).mono ?_
           (case side1 => repeat (first | exact (Kd.C_below HR0_4.out HB.out) | (with_reducible refine Kd.C_alloc ?_ _) | (with_reducible refine Kd.C_drewN ?_ _) | (with_reducible refine Kd.C_drew ?_)))
           (case side2 => exact HC0_4.out)
           (case side3 => repeat (first | exact (Kd.C_below HR214_5.out HB.out) | (with_reducible refine Kd.C_alloc ?_ _) | (with_reducible refine Kd.C_drewN ?_ _) | (with_reducible refine Kd.C_drew ?_)))
           (case side4 => exact HC214_5.out)
           rintro e w50 ⟨rfl, hb⟩
           refine ⟨_, rfl, ?_⟩
           replace HO_214004 := am (Kd.V_below (pv HO_214004.out) hb)
           replace BK204 := am (blk_below (pk BK204.out) hb)
           replace BK213 := am (blk_below (pk BK213.out) hb)
           replace BK215 := am (blk_below (pk BK215.out) hb)
           replace HB := am (below_step (pb HB) hb)
           (try clear hb)
           (try clear hb2)
           (try clear hk)
           (try clear hi)
           refine hK.out _ _ ⟨ce BK204 0, ce BK204 1, ce BK204 2, ce BK204 3, ce BK204 4, ce BK215 0, ce BK215 1, ce BK215 2, ce BK215 3, ce BK215 4, ce BK215 5⟩ (fun hHeld => ?_)
           clear hK K
           refine nm ?_
           refine pu 3 ?_
           refine pu 4 ?_
           refine pu 5 ?_
           refine pu 6 ?_
           refine pu 7 ?_
           refine po 8 ?_
           refine po 9 ?_
           refine po 10 ?_
           refine po 11 ?_
           refine po 12 ?_
           refine po 13 ?_
           refine po 14 ?_
           refine po 15 ?_
           refine po 16 ?_
           refine pu 17 ?_
           refine pu 18 ?_
           refine done_ (done_of HT_.out (by kernel_rfl)) ?_
           try go_wp2
           go_roundg k2
           case measure => have := HJ2.out; have := HK2.out; omega
           case rel => exact ⟨(wrap64 (x30_2 + 1)), (by first | rfl | (simp; done) | (simp [*]; done)), H', ⟨by have := HJ2.out; have := HK2.out; omega⟩, ⟨by refine pv ?_; exact Kd.V_mono HO_214004.out (fun _ hk => ⟨hk.1, hk.2.1⟩)⟩, ⟨pk BK204.out⟩, ⟨pk BK213.out⟩, ⟨pb HB⟩⟩
         ·replace c21 := Bool.eq_false_iff.mpr c21
          subst c21
          have H1 : (some false) = some r := by rw [if_neg (show ¬ (false = true) by decide)] at H; exact H
          clear H
          have H := H1
          clear H1
          obtain rfl := Option.some.inj H
          have p214 : 0 ≤ (x30_2 : Int) := of_decide_eq_true (by first | (with_reducible assumption) | assumption)
          have q214 : x30_2 < (l0_4.length : Int) := of_decide_eq_true (by first | (with_reducible assumption) | assumption)
          obtain ⟨ad214, A214_5, c214_5, e214, hx214_0, hx214_1, hx214_2, hx214_3, hx214_4, hx214_5, hl214_5, hi214_5⟩ := at_T42 HR0_4.out x30_2 p214 q214
          cases e214
          replace hx214_0 := (HB.out.cell (World.block_lt_of_cell? w _ hx214_0)).trans hx214_0
          replace hx214_1 := (HB.out.cell (World.block_lt_of_cell? w _ hx214_1)).trans hx214_1
          replace hx214_2 := (HB.out.cell (World.block_lt_of_cell? w _ hx214_2)).trans hx214_2
          replace hx214_3 := (HB.out.cell (World.block_lt_of_cell? w _ hx214_3)).trans hx214_3
          replace hx214_4 := (HB.out.cell (World.block_lt_of_cell? w _ hx214_4)).trans hx214_4
          replace hx214_5 := (HB.out.cell (World.block_lt_of_cell? w _ hx214_5)).trans hx214_5
          have HR214_5 := am hi214_5
          have HC214_5 := am hl214_5
          clear hi214_5 hl214_5
          replace p214 := eq_true p214
          replace q214 := eq_true q214
          try go_wp2_with (first | ((with_reducible refine gate_dst (N := 6) rfl ?_); (try (refine gate_guard (by rfl) ?_; dsimp only)); refine be 6 #[.string (⟨#[]⟩ : ByteArray), .int .u64 0, .int .u64 0, .int .u64 0, .int .i64 0, .slice none 0 0] 42 ?_; intro gb215 hg w51 hbox hb; replace HO_214004 := am (Kd.V_below (Kd.V_elderB (pv HO_214004.out) gb215 (Nat.le_of_eq hg.symm)) hb); have BK215 := am (hbox); have GW215 := am ((pg hg HB : w.heap.size ≤ gb215)); have GE215 := am ((pg hg HB : w.heap.size ≤ gb215)); replace HB := am (below_step (pb HB) hb); obtain ⟨NB204_215, NB215_204, hnc52, hnb52⟩ := pm hg BK204; replace BK204 := am (blk_below (pk BK204.out) hb); obtain ⟨NB213_215, NB215_213, hnc53, hnb53⟩ := pm hg BK213; replace BK213 := am (blk_below (pk BK213.out) hb); clear hb hbox hg; obtain ⟨hcz54_0, hcz54_1, hcz54_2, hcz54_3, hcz54_4, hcz54_5, hfz54_0, hfz54_1, hfz54_2, hfz54_3, hfz54_4, hfz54_5⟩ := g6 BK215))
          have n0_ : Aside0 (Kd.V k42 42 ((((((w51.setCell ⟨gb215, 0, none⟩ (.string ((rd_T42 l0_4 x30_2).f0))).setCell ⟨gb215, 1, none⟩ (.int .u64 ((rd_T42 l0_4 x30_2).f1))).setCell ⟨gb215, 2, none⟩ (.int .u64 ((rd_T42 l0_4 x30_2).f2.f0.f0))).setCell ⟨gb215, 3, none⟩ (.int .u64 ((rd_T42 l0_4 x30_2).f2.f0.f1))).setCell ⟨gb215, 4, none⟩ (.int .i64 ((rd_T42 l0_4 x30_2).f2.f1))).setCell ⟨gb215, 5, none⟩ (.slice A214_5 ((rd_T42 l0_4 x30_2).f2.f2).length c214_5)) w.heap.size (fun k_ => k_ ≠ gb204 ∧ k_ ≠ gb213 ∧ k_ ≠ gb215) (.slice Ao10 t209.length co10) t209) := ⟨by refine pv ?_; exact Kd.V_mono (Kd.V_far (p := ⟨gb215, 5, none⟩) (Kd.V_far (p := ⟨gb215, 4, none⟩) (Kd.V_far (p := ⟨gb215, 3, none⟩) (Kd.V_far (p := ⟨gb215, 2, none⟩) (Kd.V_far (p := ⟨gb215, 1, none⟩) (Kd.V_far (p := ⟨gb215, 0, none⟩) (Kd.V_mono HO_214004.out (fun k_ hk => (⟨hk, hk.2⟩ : _ ∧ k_ ≠ gb215))) (fun _ hk => hk.2) (.string ((rd_T42 l0_4 x30_2).f0))) (fun _ hk => hk.2) (.int .u64 ((rd_T42 l0_4 x30_2).f1))) (fun _ hk => hk.2) (.int .u64 ((rd_T42 l0_4 x30_2).f2.f0.f0))) (fun _ hk => hk.2) (.int .u64 ((rd_T42 l0_4 x30_2).f2.f0.f1))) (fun _ hk => hk.2) (.int .i64 ((rd_T42 l0_4 x30_2).f2.f1))) (fun _ hk => hk.2) (.slice A214_5 ((rd_T42 l0_4 x30_2).f2.f2).length c214_5)) (fun _ hk => ⟨hk.1.1.1, ⟨hk.1.1.2, hk.1.2⟩⟩)⟩
          have n1_ : Aside0 (((((((w51.setCell ⟨gb215, 0, none⟩ (.string ((rd_T42 l0_4 x30_2).f0))).setCell ⟨gb215, 1, none⟩ (.int .u64 ((rd_T42 l0_4 x30_2).f1))).setCell ⟨gb215, 2, none⟩ (.int .u64 ((rd_T42 l0_4 x30_2).f2.f0.f0))).setCell ⟨gb215, 3, none⟩ (.int .u64 ((rd_T42 l0_4 x30_2).f2.f0.f1))).setCell ⟨gb215, 4, none⟩ (.int .i64 ((rd_T42 l0_4 x30_2).f2.f1))).setCell ⟨gb215, 5, none⟩ (.slice A214_5 ((rd_T42 l0_4 x30_2).f2.f2).length c214_5)).heap[gb204]? = some (.cells #[.int .u64 a0_0, .int .u64 a0_1, .int .i64 a0_2, .int .i64 a0_3, .slice (some ad214) l0_4.length c0_4] 28 (0, 0))) := ⟨by refine pk ?_; refine blk_far ?_ NB204_215.out _; refine pk ?_; refine blk_far ?_ NB204_215.out _; refine pk ?_; refine blk_far ?_ NB204_215.out _; refine pk ?_; refine blk_far ?_ NB204_215.out _; refine pk ?_; refine blk_far ?_ NB204_215.out _; refine pk ?_; refine blk_far ?_ NB204_215.out _; refine pk ?_; exact BK204.out⟩
          have n2_ : Aside0 (((((((w51.setCell ⟨gb215, 0, none⟩ (.string ((rd_T42 l0_4 x30_2).f0))).setCell ⟨gb215, 1, none⟩ (.int .u64 ((rd_T42 l0_4 x30_2).f1))).setCell ⟨gb215, 2, none⟩ (.int .u64 ((rd_T42 l0_4 x30_2).f2.f0.f0))).setCell ⟨gb215, 3, none⟩ (.int .u64 ((rd_T42 l0_4 x30_2).f2.f0.f1))).setCell ⟨gb215, 4, none⟩ (.int .i64 ((rd_T42 l0_4 x30_2).f2.f1))).setCell ⟨gb215, 5, none⟩ (.slice A214_5 ((rd_T42 l0_4 x30_2).f2.f2).length c214_5)).heap[gb213]? = some (.cells #[.int .u64 t205, .int .u64 t206, .int .i64 t207, .int .i64 t208, .slice Ao10 t209.length co10] 28 (0, 0))) := ⟨by refine pk ?_; refine blk_far ?_ NB213_215.out _; refine pk ?_; refine blk_far ?_ NB213_215.out _; refine pk ?_; refine blk_far ?_ NB213_215.out _; refine pk ?_; refine blk_far ?_ NB213_215.out _; refine pk ?_; refine blk_far ?_ NB213_215.out _; refine pk ?_; refine blk_far ?_ NB213_215.out _; refine pk ?_; exact BK213.out⟩
          have n3_ : Aside0 (((((((w51.setCell ⟨gb215, 0, none⟩ (.string ((rd_T42 l0_4 x30_2).f0))).setCell ⟨gb215, 1, none⟩ (.int .u64 ((rd_T42 l0_4 x30_2).f1))).setCell ⟨gb215, 2, none⟩ (.int .u64 ((rd_T42 l0_4 x30_2).f2.f0.f0))).setCell ⟨gb215, 3, none⟩ (.int .u64 ((rd_T42 l0_4 x30_2).f2.f0.f1))).setCell ⟨gb215, 4, none⟩ (.int .i64 ((rd_T42 l0_4 x30_2).f2.f1))).setCell ⟨gb215, 5, none⟩ (.slice A214_5 ((rd_T42 l0_4 x30_2).f2.f2).length c214_5)).heap[gb215]? = some (.cells #[.string ((rd_T42 l0_4 x30_2).f0), .int .u64 ((rd_T42 l0_4 x30_2).f1), .int .u64 ((rd_T42 l0_4 x30_2).f2.f0.f0), .int .u64 ((rd_T42 l0_4 x30_2).f2.f0.f1), .int .i64 ((rd_T42 l0_4 x30_2).f2.f1), .slice A214_5 ((rd_T42 l0_4 x30_2).f2.f2).length c214_5] 42 (0, 0))) := ⟨by refine pk ?_; refine blk_put (cs := #[.string ((rd_T42 l0_4 x30_2).f0), .int .u64 ((rd_T42 l0_4 x30_2).f1), .int .u64 ((rd_T42 l0_4 x30_2).f2.f0.f0), .int .u64 ((rd_T42 l0_4 x30_2).f2.f0.f1), .int .i64 ((rd_T42 l0_4 x30_2).f2.f1), .slice none 0 0]) ?_ 5 _ rfl; refine pk ?_; refine blk_put (cs := #[.string ((rd_T42 l0_4 x30_2).f0), .int .u64 ((rd_T42 l0_4 x30_2).f1), .int .u64 ((rd_T42 l0_4 x30_2).f2.f0.f0), .int .u64 ((rd_T42 l0_4 x30_2).f2.f0.f1), .int .i64 0, .slice none 0 0]) ?_ 4 _ rfl; refine pk ?_; refine blk_put (cs := #[.string ((rd_T42 l0_4 x30_2).f0), .int .u64 ((rd_T42 l0_4 x30_2).f1), .int .u64 ((rd_T42 l0_4 x30_2).f2.f0.f0), .int .u64 0, .int .i64 0, .slice none 0 0]) ?_ 3 _ rfl; refine pk ?_; refine blk_put (cs := #[.string ((rd_T42 l0_4 x30_2).f0), .int .u64 ((rd_T42 l0_4 x30_2).f1), .int .u64 0, .int .u64 0, .int .i64 0, .slice none 0 0]) ?_ 2 _ rfl; refine pk ?_; refine blk_put (cs := #[.string ((rd_T42 l0_4 x30_2).f0), .int .u64 0, .int .u64 0, .int .u64 0, .int .i64 0, .slice none 0 0]) ?_ 1 _ rfl; refine pk ?_; refine blk_put (cs := #[.string (⟨#[]⟩ : ByteArray), .int .u64 0, .int .u64 0, .int .u64 0, .int .i64 0, .slice none 0 0]) ?_ 0 _ rfl; refine pk ?_; exact BK215.out⟩
          have n4_ : Aside0 (Below w.heap.size w ((((((w51.setCell ⟨gb215, 0, none⟩ (.string ((rd_T42 l0_4 x30_2).f0))).setCell ⟨gb215, 1, none⟩ (.int .u64 ((rd_T42 l0_4 x30_2).f1))).setCell ⟨gb215, 2, none⟩ (.int .u64 ((rd_T42 l0_4 x30_2).f2.f0.f0))).setCell ⟨gb215, 3, none⟩ (.int .u64 ((rd_T42 l0_4 x30_2).f2.f0.f1))).setCell ⟨gb215, 4, none⟩ (.int .i64 ((rd_T42 l0_4 x30_2).f2.f1))).setCell ⟨gb215, 5, none⟩ (.slice A214_5 ((rd_T42 l0_4 x30_2).f2.f2).length c214_5))) := ⟨pb HB⟩
          (try clear HO_214004)
          (try clear BK204)
          (try clear BK213)
          (try clear BK215)
          (try clear HB)
          generalize ((((((w51.setCell ⟨gb215, 0, none⟩ (.string ((rd_T42 l0_4 x30_2).f0))).setCell ⟨gb215, 1, none⟩ (.int .u64 ((rd_T42 l0_4 x30_2).f1))).setCell ⟨gb215, 2, none⟩ (.int .u64 ((rd_T42 l0_4 x30_2).f2.f0.f0))).setCell ⟨gb215, 3, none⟩ (.int .u64 ((rd_T42 l0_4 x30_2).f2.f0.f1))).setCell ⟨gb215, 4, none⟩ (.int .i64 ((rd_T42 l0_4 x30_2).f2.f1))).setCell ⟨gb215, 5, none⟩ (.slice A214_5 ((rd_T42 l0_4 x30_2).f2.f2).length c214_5)) = w55 at n0_ n1_ n2_ n3_ n4_ ⊢
          have HO_214004 := n0_
          have BK204 := n1_
          have BK213 := n2_
          have BK215 := n3_
          have HB := n4_
          clear n0_ n1_ n2_ n3_ n4_
          replace HO_214004 := am (Kd.V_drew HO_214004.out)
          replace BK204 := am (blk_drew BK204.out)
          replace BK213 := am (blk_drew BK213.out)
          replace BK215 := am (blk_drew BK215.out)
          replace HB := am (below_drew1 HB.out)
          refine start_ (n := 19) (S := fun w' => w'.cell? ⟨gb204, 0, none⟩ = some (.int .u64 a0_0) ∧ w'.cell? ⟨gb204, 1, none⟩ = some (.int .u64 a0_1) ∧ w'.cell? ⟨gb204, 2, none⟩ = some (.int .i64 a0_2) ∧ w'.cell? ⟨gb204, 3, none⟩ = some (.int .i64 a0_3) ∧ w'.cell? ⟨gb204, 4, none⟩ = some (.slice (some ad214) l0_4.length c0_4) ∧ w'.cell? ⟨gb215, 0, none⟩ = some (.string ((rd_T42 l0_4 x30_2).f0)) ∧ w'.cell? ⟨gb215, 1, none⟩ = some (.int .u64 ((rd_T42 l0_4 x30_2).f1)) ∧ w'.cell? ⟨gb215, 2, none⟩ = some (.int .u64 ((rd_T42 l0_4 x30_2).f2.f0.f0)) ∧ w'.cell? ⟨gb215, 3, none⟩ = some (.int .u64 ((rd_T42 l0_4 x30_2).f2.f0.f1)) ∧ w'.cell? ⟨gb215, 4, none⟩ = some (.int .i64 ((rd_T42 l0_4 x30_2).f2.f1)) ∧ w'.cell? ⟨gb215, 5, none⟩ = some (.slice A214_5 ((rd_T42 l0_4 x30_2).f2.f2).length c214_5)) (ds := []) #[false, false, false, false, false, false, false, false, false, false, false, false, false, false, false, false, false, false, false] (by kernel_rfl) rfl rfl ⟨ce BK204 0, ce BK204 1, ce BK204 2, ce BK204 3, ce BK204 4, ce BK215 0, ce BK215 1, ce BK215 2, ce BK215 3, ce BK215 4, ce BK215 5⟩ (fun hHeld => ?_); refine with_tabW strata_Right.tab7 strata_Right.bits7 (fun HT_ HW_ => ?_)
          generalize w55.drew = w56 at HO_214004 BK204 BK213 BK215 HB hHeld ⊢
          refine ta 0 hHeld ?_
          refine ta 1 hHeld ?_
          refine on1 2 (fun K hK => ?_)
          refine gs Try.func38 #[.agg #[.int .u64 a0_0, .int .u64 a0_1, .int .i64 a0_2, .int .i64 a0_3, .slice (some ad214) l0_4.length c0_4], .agg #[.string ((rd_T42 l0_4 x30_2).f0), .int .u64 ((rd_T42 l0_4 x30_2).f1), .int .u64 ((rd_T42 l0_4 x30_2).f2.f0.f0), .int .u64 ((rd_T42 l0_4 x30_2).f2.f0.f1), .int .i64 ((rd_T42 l0_4 x30_2).f2.f1), .slice A214_5 ((rd_T42 l0_4 x30_2).f2.f2).length c214_5]] ?_
          with_reducible refine (strata_sound.calls k2 a0_0 a0_1 a0_2 a0_3 _ _ l0_4 ((rd_T42 l0_4 x30_2).f0) ((rd_T42 l0_4 x30_2).f1) ((rd_T42 l0_4 x30_2).f2.f0.f0) ((rd_T42 l0_4 x30_2).f2.f0.f1) ((rd_T42 l0_4 x30_2).f2.f1) _ _ ((rd_T42 l0_4 x30_2).f2.f2) false _ ?side1 ?side2 ?side3 ?side4 A20.out).mono ?_
          (case side1 => repeat (first | exact (Kd.C_below HR0_4.out HB.out) | (with_reducible refine Kd.C_alloc ?_ _) | (with_reducible refine Kd.C_drewN ?_ _) | (with_reducible refine Kd.C_drew ?_)))
          (case side2 => exact HC0_4.out)
          (case side3 => repeat (first | exact (Kd.C_below HR214_5.out HB.out) | (with_reducible refine Kd.C_alloc ?_ _) | (with_reducible refine Kd.C_drewN ?_ _) | (with_reducible refine Kd.C_drew ?_)))
          (case side4 => exact HC214_5.out)
          rintro e w57 ⟨rfl, hb⟩
          refine ⟨_, rfl, ?_⟩
          replace HO_214004 := am (Kd.V_below (pv HO_214004.out) hb)
          replace BK204 := am (blk_below (pk BK204.out) hb)
          replace BK213 := am (blk_below (pk BK213.out) hb)
          replace BK215 := am (blk_below (pk BK215.out) hb)
          replace HB := am (below_step (pb HB) hb)
          (try clear hb)
          (try clear hb2)
          (try clear hk)
          (try clear hi)
          refine hK.out _ _ ⟨ce BK204 0, ce BK204 1, ce BK204 2, ce BK204 3, ce BK204 4, ce BK215 0, ce BK215 1, ce BK215 2, ce BK215 3, ce BK215 4, ce BK215 5⟩ (fun hHeld => ?_)
          clear hK K
          refine nm ?_
          refine pu 3 ?_
          refine pu 4 ?_
          refine po 5 ?_
          refine po 6 ?_
          refine po 7 ?_
          refine po 8 ?_
          refine po 9 ?_
          refine po 10 ?_
          refine po 11 ?_
          refine po 12 ?_
          refine po 13 ?_
          refine po 14 ?_
          refine po 15 ?_
          refine po 16 ?_
          refine po 17 ?_
          refine pu 18 ?_
          refine done_ (done_of HT_.out (by kernel_rfl)) ?_
          try go_wp2
          go_ret
          exact ⟨by first | rfl | (simp [errW_none, errW_some] <;> rfl) | (simp [*, errW_none, errW_some] <;> rfl), pb HB⟩
        ·rw [if_neg c19] at H
         exact absurd H (by simp)
       ·rw [if_neg c18] at H
        exact absurd H (by simp)
      ·rw [if_neg c17] at H
       have c17b0 : decide (x30_2 < (l0_4.length : Int)) = false := decide_eq_false c17
       clear c17
       obtain rfl := Option.some.inj H
       go_wp2
       go_ret
       exact ⟨by first | rfl | (simp [errW_none, errW_some] <;> rfl) | (simp [*, errW_none, errW_some] <;> rfl), pb HB⟩
end Go.Proofs.Ytpbiobbddgipkaa.H
