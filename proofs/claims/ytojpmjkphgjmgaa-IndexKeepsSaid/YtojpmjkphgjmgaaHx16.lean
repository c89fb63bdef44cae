import Derived.Test.YtojpmjkphgjmgaaHx0
import Derived.Test.YtojpmjkphgjmgaaHx12
import Derived.Test.YtojpmjkphgjmgaaHx15
namespace Go.Proofs.Ytojpmjkphgjmgaa.H
open Go.RowKit Go.Proofs.YtojpmjkphgjmgaaW.PrintWords Go.Proofs.YtojpmjkphgjmgaaW.PrintLast Go.Proofs.YtojpmjkphgjmgaaW.PrintMore Go.Proofs.YtojpmjkphgjmgaaW.Sq
attribute [local go_sem] max2_int min2_int max_two min_two max_three min_three max_four min_four
set_option linter.unusedVariables false
set_option linter.unusedSimpArgs false

mutual
def r12_Put.j0 : Nat → ByteArray → Int → Bool → Int → Int → List (S46) → Option (Int × Int × (List (S46)) × Int)
 | 0, _, _, _, _, _, _ => none
 | k + 1, x1, x2, x21, x342000, x342001, x342002 => if x21 = true then (some (x342000, x342001, x342002, 1)) else ((r12_Find.f k x342000 x342001 x342002 x1).bind fun t344 => (if t344 ≥ 0 then ((r12_set.f x342000 x342001 x342002 t344 true x1 x2).bind fun bt345 => (some (bt345.1, bt345.2.1, bt345.2.2, 0))) else ((r12_Many.f k x342000 x342001 x342002).bind fun t350 => (if (wrap64 (t350 + 1)) > (wrap64 ((x342002.length : Int) / 2)) then (if (x342002.length : Int) = 4096 then (some (x342000, x342001, x342002, 1)) else (if 0 ≤ (wrap64 (2 * (x342002.length : Int))) then (if (wrap64 (2 * (x342002.length : Int)) : Int).toNat ≤ 8796093022208 then (r12_Put.l0 k 0 x342000 x342001 x342002 true x1 x2 x342000 x342001 (List.replicate (wrap64 (2 * (x342002.length : Int)) : Int).toNat z46)) else (none)) else (none))) else ((r12_lay.f k x342000 x342001 x342002 true x1 x2).bind fun bt367 => (some (bt367.1, bt367.2.1, bt367.2.2, 0)))))))
def r12_Put.l0 : Nat → Int → Int → Int → List (S46) → Bool → ByteArray → Int → Int → Int → List (S46) → Option (Int × Int × (List (S46)) × Int)
 | 0, _, _, _, _, _, _, _, _, _, _ => none
 | k + 1, x11, x342000, x342001, x342002, x344000, x344001, x344002, x355000, x355001, x355002 => if x11 < (x342002.length : Int) then (if 0 ≤ x11 then (if (rd_T46 x342002 x11).f0 = true then ((r12_lay.f k x355000 x355001 x355002 ((rd_T46 x342002 x11).f0) ((rd_T46 x342002 x11).f1) ((rd_T46 x342002 x11).f2)).bind fun bt357 => (r12_Put.l0 k (wrap64 (x11 + 1)) x342000 x342001 x342002 x344000 x344001 x344002 bt357.1 bt357.2.1 bt357.2.2)) else (r12_Put.l0 k (wrap64 (x11 + 1)) x342000 x342001 x342002 x344000 x344001 x344002 x355000 x355001 x355002)) else (none)) else ((r12_lay.f k x355000 x355001 x355002 x344000 x344001 x344002).bind fun bt362 => (some (bt362.1, bt362.2.1, bt362.2.2, 0)))
end
def r12_Put.f (k : Nat) (a0_0 : Int) (a0_1 : Int) (l0_2 : List (S46)) (a1 : ByteArray) (a2 : Int) : Option (Int × Int × (List (S46)) × Int) := if (a1.size : Int) > 64 then (some (a0_0, a0_1, l0_2, 5)) else (if a2 < 0 then (r12_Put.j0 k a1 a2 true a0_0 a0_1 l0_2) else (r12_Put.j0 k a1 a2 (decide (a2 > 2147483647)) a0_0 a0_1 l0_2))
theorem r12_Put.mono_l : ∀ k, (∀ y0 y1 y2 y3 y4 y5, LeO (r12_Put.j0 k y0 y1 y2 y3 y4 y5) (r12_Put.j0 (k + 1) y0 y1 y2 y3 y4 y5)) ∧ (∀ y0 y1 y2 y3 y4 y5 y6 y7 y8 y9, LeO (r12_Put.l0 k y0 y1 y2 y3 y4 y5 y6 y7 y8 y9) (r12_Put.l0 (k + 1) y0 y1 y2 y3 y4 y5 y6 y7 y8 y9))
 | 0 => ⟨fun _ _ _ _ _ _ r h => by simp [r12_Put.j0] at h, fun _ _ _ _ _ _ _ _ _ _ r h => by simp [r12_Put.l0] at h⟩
 | k + 1 => by
  obtain ⟨ih0, ih1⟩ := r12_Put.mono_l k
  refine ⟨?_, ?_⟩
  ·intro y0 y1 y2 y3 y4 y5
   unfold r12_Put.j0
   repeat' first
   | (with_reducible exact ih0 _ _ _ _ _ _)
   | (with_reducible exact ih1 _ _ _ _ _ _ _ _ _ _)
   | (with_reducible exact r12_Find.mono _ _ _ _ _)
   | (with_reducible exact r12_Many.mono _ _ _ _)
   | (with_reducible exact r12_lay.mono _ _ _ _ _ _ _)
   | (with_reducible exact LeO.refl _)
   | (with_reducible exact LeO.none _)
   | (with_reducible refine LeO.ite ?_ ?_)
   | (with_reducible refine LeO.bind ?_ (fun _ => ?_))
  ·intro y0 y1 y2 y3 y4 y5 y6 y7 y8 y9
   unfold r12_Put.l0
   repeat' first
   | (with_reducible exact ih0 _ _ _ _ _ _)
   | (with_reducible exact ih1 _ _ _ _ _ _ _ _ _ _)
   | (with_reducible exact r12_Find.mono _ _ _ _ _)
   | (with_reducible exact r12_Many.mono _ _ _ _)
   | (with_reducible exact r12_lay.mono _ _ _ _ _ _ _)
   | (with_reducible exact LeO.refl _)
   | (with_reducible exact LeO.none _)
   | (with_reducible refine LeO.ite ?_ ?_)
   | (with_reducible refine LeO.bind ?_ (fun _ => ?_))
theorem r12_Put.mono : ∀ a0 a1 a2 a3 a4 k, LeO (r12_Put.f k a0 a1 a2 a3 a4) (r12_Put.f (k + 1) a0 a1 a2 a3 a4) := by
 intro a0 a1 a2 a3 a4 k
 obtain ⟨ih0, ih1⟩ := r12_Put.mono_l k
 unfold r12_Put.f
 repeat' first
   | (with_reducible exact ih0 _ _ _ _ _ _)
   | (with_reducible exact ih1 _ _ _ _ _ _ _ _ _ _)
   | (with_reducible exact r12_Find.mono _ _ _ _ _)
   | (with_reducible exact r12_Many.mono _ _ _ _)
   | (with_reducible exact r12_lay.mono _ _ _ _ _ _ _)
   | (with_reducible exact LeO.refl _)
   | (with_reducible exact LeO.none _)
   | (with_reducible refine LeO.ite ?_ ?_)
   | (with_reducible refine LeO.bind ?_ (fun _ => ?_))
def r12_Put.T9 : Bool × List (List Nat × List Nat) := (true, [([], []), ([0], [0]), ([1], [1]), ([], []), ([3], [3]), ([4], [4]), ([5], [5]), ([2, 6], [2, 6])])
def r12_Put.B9 : List Nat := [0, 1, 3, 0, 8, 24, 56, 127]
theorem r12_Put.tab9 : rtab .any (opsOf Try.f20 9) = r12_Put.T9 := by kernel_rfl
theorem r12_Put.bits9 : waitsOk r12_Put.T9.2 r12_Put.B9 = true := by kernel_rfl
def r12_Put.T12 : Bool × List (List Nat × List Nat) := (true, [([], []), ([0], [0]), ([], []), ([2], [2]), ([3], [3]), ([4], [4]), ([5, 5], [5]), ([1, 6], [1, 6]), ([], []), ([8, 7, 0, 1, 2, 3, 4, 5, 6, 7, 8], [7, 8])])
def r12_Put.B12 : List Nat := [0, 1, 0, 4, 12, 28, 60, 127, 0, 511]
theorem r12_Put.tab12 : rtab .any (opsOf Try.f20 12) = r12_Put.T12 := by kernel_rfl
theorem r12_Put.bits12 : waitsOk r12_Put.T12.2 r12_Put.B12 = true := by kernel_rfl
def r12_Put.T17 : Bool × List (List Nat × List Nat) := (true, [([], []), ([], []), ([1], [1]), ([], []), ([2, 3], [2, 3]), ([4], [4]), ([0, 5], [0, 5]), ([6, 6, 0, 1, 2, 3, 4, 5, 6], [6])])
def r12_Put.B17 : List Nat := [0, 0, 2, 0, 14, 30, 63, 127]
theorem r12_Put.tab17 : rtab .any (opsOf Try.f20 17) = r12_Put.T17 := by kernel_rfl
theorem r12_Put.bits17 : waitsOk r12_Put.T17.2 r12_Put.B17 = true := by kernel_rfl
set_option maxHeartbeats 8000000 in
set_option maxRecDepth 100000 in
theorem r12_Put.calls (k : Nat) (a0_0 : Int) (a0_1 : Int) (P0_2_ : Nat → Prop) (A0_2 : Option Addr) (c0_2 : Nat) (l0_2 : List (S46)) (a1 : ByteArray) (a2 : Int) (r1 : Int) (r2 : Int) (r3 : List (S46)) (r4 : Int) (w : World) (hs0_2 : Kd.V k46 46 w w.heap.size (fun k_ => P0_2_ k_) (.slice A0_2 l0_2.length c0_2) l0_2) (h : r12_Put.f k a0_0 a0_1 l0_2 a1 a2 = some (r1, r2, r3, r4)) :
  Calls Try.prog 20 #[.agg #[.int .u64 a0_0, .int .u64 a0_1, .slice A0_2 l0_2.length c0_2], .string a1, .int .i64 a2] w fun e w' => ∃ v2_ : Value, e = .returned (.tuple #[.agg #[.int .u64 r1, .int .u64 r2, v2_], .int .i64 r4]) ∧ Kd.V k46 46 w' w.heap.size (fun k_ => (P0_2_ k_ ∨ w.heap.size ≤ k_)) v2_ r3 ∧ Below w.heap.size w w' := by
 have hu30 := Try.underlying30
 have hu46 := Try.underlying46
 have hu24 := Try.underlying24
 have HO0_2 := am (show Kd.V k46 46 w w.heap.size (fun k_ => (P0_2_ k_ ∨ w.heap.size ≤ k_)) (.slice A0_2 l0_2.length c0_2) l0_2 from Kd.V_mono hs0_2 (fun k_ hk => .inl hk))
 have HB := am (Below.refl w.heap.size w)
 have H : (if (a1.size : Int) > 64 then (some (a0_0, a0_1, l0_2, 5)) else (if a2 < 0 then (r12_Put.j0 k a1 a2 true a0_0 a0_1 l0_2) else (r12_Put.j0 k a1 a2 (decide (a2 > 2147483647)) a0_0 a0_1 l0_2))) = some (r1, r2, r3, r4) := h
 clear h
 by_cases c4 : (a1.size : Int) > 64
 ·rw [if_pos c4] at H
  have c4b0 : decide (64 < (a1.size : Int)) = true := decide_eq_true c4
  have c4b1 : decide (64 < a1.size) = true := decide_eq_true (by omega)
  clear c4
  simp only [Option.some.injEq, Prod.mk.injEq] at H
  obtain ⟨rfl, rfl, rfl, rfl⟩ := H
  go_enter Try.func20, Try.ntmps20
  go_wp2_with (first | ((with_reducible refine gate_dst (N := 3) rfl ?_); refine be 3 #[.int .u64 a0_0, .int .u64 a0_1, .slice A0_2 l0_2.length c0_2] 30 ?_; intro gb341 hg w5 hbox hb; have n0_ := am (Kd.V_below (Kd.V_elderB (pv HO0_2.out) gb341 (Nat.le_of_eq hg.symm)) hb); have n1_ := am (below_step (pb HB) hb); have n2_ := am (hbox); have n3_ := am ((pg hg HB : w.heap.size ≤ gb341)); have n4_ := am ((pg hg HB : w.heap.size ≤ gb341)); clear HO0_2; clear HB; have HO0_2 := n0_; have HB := n1_; have BK341 := n2_; have GW341 := n3_; have GE341 := n4_; clear n0_ n1_ n2_ n3_ n4_; clear hb hbox hg) | ((with_reducible refine gate_dst (N := 6) rfl ?_); refine be 6 #[.int .u64 0, .int .u64 0, .slice none 0 0] 30 ?_; intro gb342 hg w6 hbox hb; have n0_ := am (Kd.V_below (Kd.V_elderB (pv HO0_2.out) gb342 (Nat.le_of_eq hg.symm)) hb); have n1_ := am (blk_below (pk BK341.out) hb); have n2_ := am (below_step (pb HB) hb); have n3_ := am (hbox); have n4_ := am ((pg hg HB : w.heap.size ≤ gb342)); have n5_ := am ((pg hg HB : w.heap.size ≤ gb342)); have n6_ := am ((pl hg (pk BK341.out) : gb341 ≠ gb342)); have n7_ := am ((pl' hg (pk BK341.out) : gb342 ≠ gb341)); clear HO0_2; clear BK341; clear HB; have HO0_2 := n0_; have BK341 := n1_; have HB := n2_; have BK342 := n3_; have GW342 := n4_; have GE342 := n5_; have NB341_342 := n6_; have NB342_341 := n7_; clear n0_ n1_ n2_ n3_ n4_ n5_ n6_ n7_; clear hb hbox hg; have hnb7 := NB341_342.out; have hnc7 := NB342_341.out; have hcz8_0 := ce BK341 0; have hcz8_1 := ce BK341 1; have hcz8_2 := ce BK341 2; have hfz8_0 := fz BK341 0; have hfz8_1 := fz BK341 1; have hfz8_2 := fz BK341 2; have hcz9_0 := ce BK342 0; have hcz9_1 := ce BK342 1; have hcz9_2 := ce BK342 2; have hfz9_0 := fz BK342 0; have hfz9_1 := fz BK342 1; have hfz9_2 := fz BK342 2))
  refine bodyPost_ret (results_ct rfl _ _ gb342 30 #[.int .u64 a0_0, .int .u64 a0_1, .slice A0_2 l0_2.length c0_2] (0, 0) _ rfl (by refine pk ?_; refine blk_put (cs := #[.int .u64 a0_0, .int .u64 a0_1, .slice none 0 0]) ?_ 2 _ rfl; refine pk ?_; refine blk_put (cs := #[.int .u64 a0_0, .int .u64 0, .slice none 0 0]) ?_ 1 _ rfl; refine pk ?_; refine blk_put (cs := #[.int .u64 0, .int .u64 0, .slice none 0 0]) ?_ 0 _ rfl; refine pk ?_; exact BK342.out) Try.underlying30 rfl (by kernel_rfl)) rfl ?_
  exact ⟨_, by first | rfl | (simp [errW_none, errW_some] <;> rfl) | (simp [*, errW_none, errW_some] <;> rfl), by refine pv ?_; exact Kd.V_mono (Kd.V_far (p := ⟨gb342, 2, none⟩) (Kd.V_far (p := ⟨gb342, 1, none⟩) (Kd.V_far (p := ⟨gb342, 0, none⟩) (Kd.V_mono HO0_2.out (fun k_ hk => (⟨hk, hk.2⟩ : _ ∧ k_ ≠ gb342))) (fun _ hk => hk.2) (.int .u64 a0_0)) (fun _ hk => hk.2) (.int .u64 a0_1)) (fun _ hk => hk.2) (.slice A0_2 l0_2.length c0_2)) (fun _ hk => hk.1.1.1), pb HB⟩
 rw [if_neg c4] at H
 have c4b0 : decide (64 < (a1.size : Int)) = false := decide_eq_false c4
 have c4b1 : decide (64 < a1.size) = false := decide_eq_false (by omega)
 clear c4
 have HC10 := am H
 clear H
 go_enter Try.func20, Try.ntmps20
 go_upto_region 3 with (first | ((with_reducible refine gate_dst (N := 3) rfl ?_); refine be 3 #[.int .u64 a0_0, .int .u64 a0_1, .slice A0_2 l0_2.length c0_2] 30 ?_; intro gb341 hg w11 hbox hb; have n0_ := am (Kd.V_below (Kd.V_elderB (pv HO0_2.out) gb341 (Nat.le_of_eq hg.symm)) hb); have n1_ := am (below_step (pb HB) hb); have n2_ := am (hbox); have n3_ := am ((pg hg HB : w.heap.size ≤ gb341)); have n4_ := am ((pg hg HB : w.heap.size ≤ gb341)); clear HO0_2; clear HB; have HO0_2 := n0_; have HB := n1_; have BK341 := n2_; have GW341 := n3_; have GE341 := n4_; clear n0_ n1_ n2_ n3_ n4_; clear hb hbox hg) | ((with_reducible refine gate_dst (N := 6) rfl ?_); refine be 6 #[.int .u64 0, .int .u64 0, .slice none 0 0] 30 ?_; intro gb342 hg w12 hbox hb; have n0_ := am (Kd.V_below (Kd.V_elderB (pv HO0_2.out) gb342 (Nat.le_of_eq hg.symm)) hb); have n1_ := am (blk_below (pk BK341.out) hb); have n2_ := am (below_step (pb HB) hb); have n3_ := am (hbox); have n4_ := am ((pg hg HB : w.heap.size ≤ gb342)); have n5_ := am ((pg hg HB : w.heap.size ≤ gb342)); have n6_ := am ((pl hg (pk BK341.out) : gb341 ≠ gb342)); have n7_ := am ((pl' hg (pk BK341.out) : gb342 ≠ gb341)); clear HO0_2; clear BK341; clear HB; have HO0_2 := n0_; have BK341 := n1_; have HB := n2_; have BK342 := n3_; have GW342 := n4_; have GE342 := n5_; have NB341_342 := n6_; have NB342_341 := n7_; clear n0_ n1_ n2_ n3_ n4_ n5_ n6_ n7_; clear hb hbox hg))
 (try simp only [Act.put, List.setIfInBounds_toArray, List.set_cons_zero, List.set_cons_succ])
 go_cut [21] (fun v21 wc => ∃ (kq : Nat) (x21_9 : Bool), v21 = .bool x21_9 ∧ Aside0 (r12_Put.j0 kq a1 a2 x21_9 a0_0 a0_1 l0_2 = some (r1, r2, r3, r4)) ∧ Aside0 (kq ≤ k) ∧ Aside0 (Kd.V k46 46 wc w.heap.size (fun k_ => (P0_2_ k_ ∨ w.heap.size ≤ k_) ∧ k_ ≠ gb341 ∧ k_ ≠ gb342) (.slice A0_2 l0_2.length c0_2) l0_2) ∧ Aside0 (wc.heap[gb341]? = some (.cells #[.int .u64 a0_0, .int .u64 a0_1, (.slice A0_2 l0_2.length c0_2)] 30 (0, 0))) ∧ Aside0 (wc.heap[gb342]? = some (.cells #[.int .u64 0, .int .u64 0, (.slice none 0 0)] 30 (0, 0))) ∧ Aside0 (Below w.heap.size w wc))
 case first =>
  have H := HC10.out
  clear HC10
  by_cases c13 : a2 < 0
  ·rw [if_pos c13] at H
   have c13b0 : decide (a2 < 0) = true := decide_eq_true c13
   clear c13
   (first | rw [c13b0] | (simp only [i64_w, i32_w]; rw [c13b0]) | skip)
   have H' := am H
   clear H
   go_wp2
   go_meet
   case rel => exact ⟨_, (true), (by first | rfl | (simp; done) | (simp [*]; done)), H', ⟨by first | omega | exact Nat.le_refl _⟩, ⟨by refine pv ?_; exact Kd.V_mono HO0_2.out (fun _ hk => ⟨hk.1.1, ⟨hk.1.2, hk.2⟩⟩)⟩, ⟨pk BK341.out⟩, ⟨pk BK342.out⟩, ⟨pb HB⟩⟩
  ·rw [if_neg c13] at H
   have c13b0 : decide (a2 < 0) = false := decide_eq_false c13
   clear c13
   (first | rw [c13b0] | (simp only [i64_w, i32_w]; rw [c13b0]) | skip)
   have H' := am H
   clear H
   go_wp2
   go_meet
   case rel => exact ⟨_, (decide (a2 > 2147483647)), (by first | rfl | (simp; done) | (simp [*]; done)), H', ⟨by first | omega | exact Nat.le_refl _⟩, ⟨by refine pv ?_; exact Kd.V_mono HO0_2.out (fun _ hk => ⟨hk.1.1, ⟨hk.1.2, hk.2⟩⟩)⟩, ⟨pk BK341.out⟩, ⟨pk BK342.out⟩, ⟨pb HB⟩⟩
 case rest =>
  clear HC10
  try clear c1
  try clear c2
  try clear p2
  try clear c4
  try clear c4b0
  try clear c4b1
  try clear c7
  try clear c13
  try clear c13b0
  try clear hcz8_0 hcz8_1 hcz8_2
  try clear hcz9_0 hcz9_1 hcz9_2
  try clear hfz8_0 hfz8_1 hfz8_2
  try clear hfz9_0 hfz9_1 hfz9_2
  obtain ⟨kq, x21_9, rfl, HA, HJ9, HO_342002, BK341, BK342, HB⟩ := hcut
  cases kq with
  | zero => exact absurd HA.out (by simp [r12_Put.j0])
  | succ kj9 =>
   have H := HA.out
   clear HA
   simp only [r12_Put.j0] at H
   by_cases c14 : x21_9 = true
   ·subst c14
    have H1 : (some (a0_0, a0_1, l0_2, 1)) = some (r1, r2, r3, r4) := by rw [if_pos rfl] at H; exact H
    clear H
    have H := H1
    clear H1
    simp only [Option.some.injEq, Prod.mk.injEq] at H
    obtain ⟨rfl, rfl, rfl, rfl⟩ := H
    have hnb15 := NB341_342.out
    have hnc15 := NB342_341.out
    have hcz16_0 := ce BK341 0
    have hcz16_1 := ce BK341 1
    have hcz16_2 := ce BK341 2
    have hfz16_0 := fz BK341 0
    have hfz16_1 := fz BK341 1
    have hfz16_2 := fz BK341 2
    have hcz17_0 := ce BK342 0
    have hcz17_1 := ce BK342 1
    have hcz17_2 := ce BK342 2
    have hfz17_0 := fz BK342 0
    have hfz17_1 := fz BK342 1
    have hfz17_2 := fz BK342 2
    go_wp2
    refine bodyPost_ret (results_ct rfl _ _ gb342 30 #[.int .u64 a0_0, .int .u64 a0_1, .slice A0_2 l0_2.length c0_2] (0, 0) _ rfl (by refine pk ?_; refine blk_put (cs := #[.int .u64 a0_0, .int .u64 a0_1, .slice none 0 0]) ?_ 2 _ rfl; refine pk ?_; refine blk_put (cs := #[.int .u64 a0_0, .int .u64 0, .slice none 0 0]) ?_ 1 _ rfl; refine pk ?_; refine blk_put (cs := #[.int .u64 0, .int .u64 0, .slice none 0 0]) ?_ 0 _ rfl; refine pk ?_; exact BK342.out) Try.underlying30 rfl (by kernel_rfl)) rfl ?_
    exact ⟨_, by first | rfl | (simp [errW_none, errW_some] <;> rfl) | (simp [*, errW_none, errW_some] <;> rfl), by refine pv ?_; exact Kd.V_mono (Kd.V_far (p := ⟨gb342, 2, none⟩) (Kd.V_far (p := ⟨gb342, 1, none⟩) (Kd.V_far (p := ⟨gb342, 0, none⟩) (Kd.V_mono HO_342002.out (fun k_ hk => (⟨hk, hk.2.2⟩ : _ ∧ k_ ≠ gb342))) (fun _ hk => hk.2) (.int .u64 a0_0)) (fun _ hk => hk.2) (.int .u64 a0_1)) (fun _ hk => hk.2) (.slice A0_2 l0_2.length c0_2)) (fun _ hk => hk.1.1), pb HB⟩
   ·replace c14 := Bool.eq_false_iff.mpr c14
    subst c14
    have H1 : ((r12_Find.f kj9 a0_0 a0_1 l0_2 a1).bind fun t344 => (if t344 ≥ 0 then ((r12_set.f a0_0 a0_1 l0_2 t344 true a1 a2).bind fun bt345 => (some (bt345.1, bt345.2.1, bt345.2.2, 0))) else ((r12_Many.f kj9 a0_0 a0_1 l0_2).bind fun t350 => (if (wrap64 (t350 + 1)) > (wrap64 ((l0_2.length : Int) / 2)) then (if (l0_2.length : Int) = 4096 then (some (a0_0, a0_1, l0_2, 1)) else (if 0 ≤ (wrap64 (2 * (l0_2.length : Int))) then (if (wrap64 (2 * (l0_2.length : Int)) : Int).toNat ≤ 8796093022208 then (r12_Put.l0 kj9 0 a0_0 a0_1 l0_2 true a1 a2 a0_0 a0_1 (List.replicate (wrap64 (2 * (l0_2.length : Int)) : Int).toNat z46)) else (none)) else (none))) else ((r12_lay.f kj9 a0_0 a0_1 l0_2 true a1 a2).bind fun bt367 => (some (bt367.1, bt367.2.1, bt367.2.2, 0))))))) = some (r1, r2, r3, r4) := by rw [if_neg (show ¬ (false = true) by decide)] at H; exact H
    clear H
    have H := H1
    clear H1
    replace H := Option.bind_eq_some_iff.mp H
    obtain ⟨t344, A180, H⟩ := H
    replace H : (if t344 ≥ 0 then ((r12_set.f a0_0 a0_1 l0_2 t344 true a1 a2).bind fun bt345 => (some (bt345.1, bt345.2.1, bt345.2.2, 0))) else ((r12_Many.f kj9 a0_0 a0_1 l0_2).bind fun t350 => (if (wrap64 (t350 + 1)) > (wrap64 ((l0_2.length : Int) / 2)) then (if (l0_2.length : Int) = 4096 then (some (a0_0, a0_1, l0_2, 1)) else (if 0 ≤ (wrap64 (2 * (l0_2.length : Int))) then (if (wrap64 (2 * (l0_2.length : Int)) : Int).toNat ≤ 8796093022208 then (r12_Put.l0 kj9 0 a0_0 a0_1 l0_2 true a1 a2 a0_0 a0_1 (List.replicate (wrap64 (2 * (l0_2.length : Int)) : Int).toNat z46)) else (none)) else (none))) else ((r12_lay.f kj9 a0_0 a0_1 l0_2 true a1 a2).bind fun bt367 => (some (bt367.1, bt367.2.1, bt367.2.2, 0)))))) = some (r1, r2, r3, r4) := H
    have A18 := am A180
    clear A180
    by_cases c19 : t344 ≥ 0
    ·rw [if_pos c19] at H
     have c19b0 : decide (0 ≤ t344) = true := decide_eq_true c19
     clear c19
     replace H := Option.bind_eq_some_iff.mp H
     obtain ⟨⟨t345, t346, t347⟩, A200, H⟩ := H
     replace H : (some (t345, t346, t347, 0)) = some (r1, r2, r3, r4) := H
     have A20 := am A200
     clear A200
     simp only [Option.some.injEq, Prod.mk.injEq] at H
     obtain ⟨rfl, rfl, rfl, rfl⟩ := H
     go_wp2_with (first | ((with_reducible refine gate_dst (N := 8) rfl ?_); refine be 8 #[.bool false, .string (⟨#[]⟩ : ByteArray), .int .i64 0] 46 ?_; intro gb343 hg w21 hbox hb; have n0_ := am (Kd.V_below (Kd.V_elderB (pv HO_342002.out) gb343 (Nat.le_of_eq hg.symm)) hb); have n1_ := am (blk_below (pk BK341.out) hb); have n2_ := am (blk_below (pk BK342.out) hb); have n3_ := am (below_step (pb HB) hb); have n4_ := am (hbox); have n5_ := am ((pg hg HB : w.heap.size ≤ gb343)); have n6_ := am ((pg hg HB : w.heap.size ≤ gb343)); have n7_ := am ((pl hg (pk BK341.out) : gb341 ≠ gb343)); have n8_ := am ((pl' hg (pk BK341.out) : gb343 ≠ gb341)); have n9_ := am ((pl hg (pk BK342.out) : gb342 ≠ gb343)); have n10_ := am ((pl' hg (pk BK342.out) : gb343 ≠ gb342)); clear HO_342002; clear BK341; clear BK342; clear HB; have HO_342002 := n0_; have BK341 := n1_; have BK342 := n2_; have HB := n3_; have BK343 := n4_; have GW343 := n5_; have GE343 := n6_; have NB341_343 := n7_; have NB343_341 := n8_; have NB342_343 := n9_; have NB343_342 := n10_; clear n0_ n1_ n2_ n3_ n4_ n5_ n6_ n7_ n8_ n9_ n10_; clear hb hbox hg; have hnb22 := NB343_341.out; have hnc22 := NB341_343.out; have hnb23 := NB343_342.out; have hnc23 := NB342_343.out; have hcz24_0 := ce BK343 0; have hcz24_1 := ce BK343 1; have hcz24_2 := ce BK343 2; have hfz24_0 := fz BK343 0; have hfz24_1 := fz BK343 1; have hfz24_2 := fz BK343 2; have hnb25 := NB341_342.out; have hnc25 := NB342_341.out; have hcz26_0 := ce BK341 0; have hcz26_1 := ce BK341 1; have hcz26_2 := ce BK341 2; have hfz26_0 := fz BK341 0; have hfz26_1 := fz BK341 1; have hfz26_2 := fz BK341 2) | ((with_reducible refine gate_callee (f := 18) rfl ?_); refine gl (some 28) Try.func18 #[.agg #[.int .u64 a0_0, .int .u64 a0_1, .slice A0_2 l0_2.length c0_2], .string a1] ?_; (with_reducible refine (r12_Find.calls kj9 a0_0 a0_1 _ _ l0_2 a1 t344 _ ?side1 ?side2 A18.out).mono ?_); (case side1 => refine (Kd.V_reads' (e := 46) (base := w.heap.size) (ok := fun k_ => (((P0_2_ k_ ∨ w.heap.size ≤ k_) ∧ (k_ ≠ gb341 ∧ k_ ≠ gb342)) ∧ k_ ≠ gb343)) (n := l0_2.length) (c := c0_2) ?_).2.2; exact (pv ((Kd.V_mono (Kd.V_far (p := ⟨gb343, 2, none⟩) (Kd.V_far (p := ⟨gb343, 1, none⟩) (Kd.V_far (p := ⟨gb343, 0, none⟩) (Kd.V_mono HO_342002.out (fun k_ hk => (⟨hk, hk.2⟩ : _ ∧ k_ ≠ gb343))) (fun _ hk => hk.2) (.bool true)) (fun _ hk => hk.2) (.string a1)) (fun _ hk => hk.2) (.int .i64 a2)) (fun _ h_ => h_.1))))); (case side2 => exact (Kd.V_reads' HO_342002.out).2.1); rintro e w27 ⟨rfl, hb⟩; refine ⟨_, rfl, ?_⟩; replace HO_342002 := am (Kd.V_below (pv ((Kd.V_mono (Kd.V_far (p := ⟨gb343, 2, none⟩) (Kd.V_far (p := ⟨gb343, 1, none⟩) (Kd.V_far (p := ⟨gb343, 0, none⟩) (Kd.V_mono HO_342002.out (fun k_ hk => (⟨hk, hk.2⟩ : _ ∧ k_ ≠ gb343))) (fun _ hk => hk.2) (.bool true)) (fun _ hk => hk.2) (.string a1)) (fun _ hk => hk.2) (.int .i64 a2)) (fun _ h_ => h_.1)))) hb); replace BK341 := am (blk_below (g := gb341) (o := .cells #[.int .u64 a0_0, .int .u64 a0_1, .slice A0_2 l0_2.length c0_2] 30 (0, 0)) (by refine pk ?_; refine blk_far ?_ NB341_343.out _; refine pk ?_; refine blk_far ?_ NB341_343.out _; refine pk ?_; refine blk_far ?_ NB341_343.out _; refine pk ?_; exact BK341.out) hb); replace BK342 := am (blk_below (g := gb342) (o := .cells #[.int .u64 0, .int .u64 0, .slice none 0 0] 30 (0, 0)) (by refine pk ?_; refine blk_far ?_ NB342_343.out _; refine pk ?_; refine blk_far ?_ NB342_343.out _; refine pk ?_; refine blk_far ?_ NB342_343.out _; refine pk ?_; exact BK342.out) hb); replace BK343 := am (blk_below (g := gb343) (o := .cells #[.bool true, .string a1, .int .i64 a2] 46 (0, 0)) (by refine pk ?_; refine blk_put (cs := #[.bool true, .string a1, .int .i64 0]) ?_ 2 _ rfl; refine pk ?_; refine blk_put (cs := #[.bool true, .string (⟨#[]⟩ : ByteArray), .int .i64 0]) ?_ 1 _ rfl; refine pk ?_; refine blk_put (cs := #[.bool false, .string (⟨#[]⟩ : ByteArray), .int .i64 0]) ?_ 0 _ rfl; refine pk ?_; exact BK343.out) hb); replace HB := am (below_step (pb HB) hb); (try clear hb); (try clear hb2); (try clear hk); (try clear hi); have hcz28_0 := ce BK341 0; have hcz28_1 := ce BK341 1; have hcz28_2 := ce BK341 2; have hfz28_0 := fz BK341 0; have hfz28_1 := fz BK341 1; have hfz28_2 := fz BK341 2; have hcz29_0 := ce BK343 0; have hcz29_1 := ce BK343 1; have hcz29_2 := ce BK343 2; have hfz29_0 := fz BK343 0; have hfz29_1 := fz BK343 1; have hfz29_2 := fz BK343 2) | ((with_reducible refine gate_callee (f := 34) rfl ?_); refine gl (some 34) Try.func34 #[.agg #[.int .u64 a0_0, .int .u64 a0_1, .slice A0_2 l0_2.length c0_2], .int .i64 t344, .agg #[.bool true, .string a1, .int .i64 a2]] ?_; (with_reducible refine (r12_set.calls a0_0 a0_1 _ _ l0_2 t344 true a1 a2 t345 t346 t347 _ ?side1 ?side2 A20.out).mono ?_); (case side1 => repeat (first | exact (Kd.V_reads' HO_342002.out).2.2 | (with_reducible refine Kd.C_alloc ?_ _) | (with_reducible refine Kd.C_drewN ?_ _) | (with_reducible refine Kd.C_drew ?_))); (case side2 => exact (Kd.V_reads' HO_342002.out).2.1); rintro e w30 ⟨v348, rfl, ho0, hb⟩; refine ⟨_, rfl, ?_⟩; replace HO_342002 := am (Kd.V_elder' (pv HO_342002.out) (Kd.R_base ho0) hb); have HO349 := am (Kd.R_lower (Kd.R_newB (Kd.R_newM (M := fun k_ => (w.heap.size ≤ k_)) ho0 (below_size (pb HB)) (fun k_ h_ => h_)) (g := gb343) (o := .cells #[.bool true, .string a1, .int .i64 a2] 46 (0, 0)) (pk BK343.out)) (below_size (pb HB))); replace BK341 := am (blk_below (pk BK341.out) hb); replace BK342 := am (blk_below (pk BK342.out) hb); replace BK343 := am (blk_below (pk BK343.out) hb); replace HB := am (below_step (pb HB) hb); (try clear hb); (try clear hb2); (try clear hk); (try clear hi); (try clear ho0); have hcz31_0 := ce BK342 0; have hcz31_1 := ce BK342 1; have hcz31_2 := ce BK342 2; have hfz31_0 := fz BK342 0; have hfz31_1 := fz BK342 1; have hfz31_2 := fz BK342 2; obtain ⟨Ao32, co32, eo32⟩ := Kd.R_slice HO349.out; subst eo32))
     refine bodyPost_ret (results_ct rfl _ _ gb342 30 #[.int .u64 t345, .int .u64 t346, .slice Ao32 t347.length co32] (0, 0) _ rfl (by refine pk ?_; refine blk_put (cs := #[.int .u64 t345, .int .u64 t346, .slice none 0 0]) ?_ 2 _ rfl; refine pk ?_; refine blk_put (cs := #[.int .u64 t345, .int .u64 0, .slice none 0 0]) ?_ 1 _ rfl; refine pk ?_; refine blk_put (cs := #[.int .u64 0, .int .u64 0, .slice none 0 0]) ?_ 0 _ rfl; refine pk ?_; exact BK342.out) Try.underlying30 rfl (by kernel_rfl)) rfl ?_
     exact ⟨_, by first | rfl | (simp [errW_none, errW_some] <;> rfl) | (simp [*, errW_none, errW_some] <;> rfl), Kd.V_mono (Kd.R_V (pr (Kd.R_mono (Kd.R_far (p := ⟨gb342, 2, none⟩) (Kd.R_far (p := ⟨gb342, 1, none⟩) (Kd.R_far (p := ⟨gb342, 0, none⟩) (Kd.R_types HO349.out BK342.out (by decide)) (fun _ hk => hk.2) (.int .u64 t345)) (fun _ hk => hk.2) (.int .u64 t346)) (fun _ hk => hk.2) (.slice Ao32 t347.length co32)) (fun _ hk => hk.1.1.1)))) (fun k_ hk => by first | exact ⟨(.inr (hk.1)), hk.2⟩ | exact (.inr (hk))), pb HB⟩
    ·rw [if_neg c19] at H
     have c19b0 : decide (0 ≤ t344) = false := decide_eq_false c19
     clear c19
     replace H := Option.bind_eq_some_iff.mp H
     obtain ⟨t350, A330, H⟩ := H
     replace H : (if (wrap64 (t350 + 1)) > (wrap64 ((l0_2.length : Int) / 2)) then (if (l0_2.length : Int) = 4096 then (some (a0_0, a0_1, l0_2, 1)) else (if 0 ≤ (wrap64 (2 * (l0_2.length : Int))) then (if (wrap64 (2 * (l0_2.length : Int)) : Int).toNat ≤ 8796093022208 then (r12_Put.l0 kj9 0 a0_0 a0_1 l0_2 true a1 a2 a0_0 a0_1 (List.replicate (wrap64 (2 * (l0_2.length : Int)) : Int).toNat z46)) else (none)) else (none))) else ((r12_lay.f kj9 a0_0 a0_1 l0_2 true a1 a2).bind fun bt367 => (some (bt367.1, bt367.2.1, bt367.2.2, 0)))) = some (r1, r2, r3, r4) := H
     have A33 := am A330
     clear A330
     by_cases c34 : (wrap64 (t350 + 1)) > (wrap64 ((l0_2.length : Int) / 2))
     ·rw [if_pos c34] at H
      have c34b0 : decide ((wrap64 ((l0_2.length : Int) / 2)) < (wrap64 (t350 + 1))) = true := decide_eq_true c34
      clear c34
      by_cases c35 : (l0_2.length : Int) = 4096
      ·rw [if_pos c35] at H
       have c35b0 : ((l0_2.length : Int) == 4096) = true := beq_iff_eq.mpr c35
       have c35b1 : ((l0_2.length : Int) != 4096) = false := bne_eq_false_iff_eq.mpr c35
       clear c35
       simp only [Option.some.injEq, Prod.mk.injEq] at H
       obtain ⟨rfl, rfl, rfl, rfl⟩ := H
       try go_wp2_with (first | ((with_reducible refine gate_dst (N := 8) rfl ?_); refine be 8 #[.bool false, .string (⟨#[]⟩ : ByteArray), .int .i64 0] 46 ?_; intro gb343 hg w36 hbox hb; have n0_ := am (Kd.V_below (Kd.V_elderB (pv HO_342002.out) gb343 (Nat.le_of_eq hg.symm)) hb); have n1_ := am (blk_below (pk BK341.out) hb); have n2_ := am (blk_below (pk BK342.out) hb); have n3_ := am (below_step (pb HB) hb); have n4_ := am (hbox); have n5_ := am ((pg hg HB : w.heap.size ≤ gb343)); have n6_ := am ((pg hg HB : w.heap.size ≤ gb343)); have n7_ := am ((pl hg (pk BK341.out) : gb341 ≠ gb343)); have n8_ := am ((pl' hg (pk BK341.out) : gb343 ≠ gb341)); have n9_ := am ((pl hg (pk BK342.out) : gb342 ≠ gb343)); have n10_ := am ((pl' hg (pk BK342.out) : gb343 ≠ gb342)); clear HO_342002; clear BK341; clear BK342; clear HB; have HO_342002 := n0_; have BK341 := n1_; have BK342 := n2_; have HB := n3_; have BK343 := n4_; have GW343 := n5_; have GE343 := n6_; have NB341_343 := n7_; have NB343_341 := n8_; have NB342_343 := n9_; have NB343_342 := n10_; clear n0_ n1_ n2_ n3_ n4_ n5_ n6_ n7_ n8_ n9_ n10_; clear hb hbox hg; have hnb37 := NB343_341.out; have hnc37 := NB341_343.out; have hnb38 := NB343_342.out; have hnc38 := NB342_343.out; have hcz39_0 := ce BK343 0; have hcz39_1 := ce BK343 1; have hcz39_2 := ce BK343 2; have hfz39_0 := fz BK343 0; have hfz39_1 := fz BK343 1; have hfz39_2 := fz BK343 2; have hnb40 := NB341_342.out; have hnc40 := NB342_341.out; have hcz41_0 := ce BK341 0; have hcz41_1 := ce BK341 1; have hcz41_2 := ce BK341 2; have hfz41_0 := fz BK341 0; have hfz41_1 := fz BK341 1; have hfz41_2 := fz BK341 2) | ((with_reducible refine gate_callee (f := 18) rfl ?_); refine gl (some 28) Try.func18 #[.agg #[.int .u64 a0_0, .int .u64 a0_1, .slice A0_2 l0_2.length c0_2], .string a1] ?_; (with_reducible refine (r12_Find.calls kj9 a0_0 a0_1 _ _ l0_2 a1 t344 _ ?side1 ?side2 A18.out).mono ?_); (case side1 => refine (Kd.V_reads' (e := 46) (base := w.heap.size) (ok := fun k_ => (((P0_2_ k_ ∨ w.heap.size ≤ k_) ∧ (k_ ≠ gb341 ∧ k_ ≠ gb342)) ∧ k_ ≠ gb343)) (n := l0_2.length) (c := c0_2) ?_).2.2; exact (pv ((Kd.V_mono (Kd.V_far (p := ⟨gb343, 2, none⟩) (Kd.V_far (p := ⟨gb343, 1, none⟩) (Kd.V_far (p := ⟨gb343, 0, none⟩) (Kd.V_mono HO_342002.out (fun k_ hk => (⟨hk, hk.2⟩ : _ ∧ k_ ≠ gb343))) (fun _ hk => hk.2) (.bool true)) (fun _ hk => hk.2) (.string a1)) (fun _ hk => hk.2) (.int .i64 a2)) (fun _ h_ => h_.1))))); (case side2 => exact (Kd.V_reads' HO_342002.out).2.1); rintro e w42 ⟨rfl, hb⟩; refine ⟨_, rfl, ?_⟩; replace HO_342002 := am (Kd.V_below (pv ((Kd.V_mono (Kd.V_far (p := ⟨gb343, 2, none⟩) (Kd.V_far (p := ⟨gb343, 1, none⟩) (Kd.V_far (p := ⟨gb343, 0, none⟩) (Kd.V_mono HO_342002.out (fun k_ hk => (⟨hk, hk.2⟩ : _ ∧ k_ ≠ gb343))) (fun _ hk => hk.2) (.bool true)) (fun _ hk => hk.2) (.string a1)) (fun _ hk => hk.2) (.int .i64 a2)) (fun _ h_ => h_.1)))) hb); replace BK341 := am (blk_below (g := gb341) (o := .cells #[.int .u64 a0_0, .int .u64 a0_1, .slice A0_2 l0_2.length c0_2] 30 (0, 0)) (by refine pk ?_; refine blk_far ?_ NB341_343.out _; refine pk ?_; refine blk_far ?_ NB341_343.out _; refine pk ?_; refine blk_far ?_ NB341_343.out _; refine pk ?_; exact BK341.out) hb); replace BK342 := am (blk_below (g := gb342) (o := .cells #[.int .u64 0, .int .u64 0, .slice none 0 0] 30 (0, 0)) (by refine pk ?_; refine blk_far ?_ NB342_343.out _; refine pk ?_; refine blk_far ?_ NB342_343.out _; refine pk ?_; refine blk_far ?_ NB342_343.out _; refine pk ?_; exact BK342.out) hb); replace BK343 := am (blk_below (g := gb343) (o := .cells #[.bool true, .string a1, .int .i64 a2] 46 (0, 0)) (by refine pk ?_; refine blk_put (cs := #[.bool true, .string a1, .int .i64 0]) ?_ 2 _ rfl; refine pk ?_; refine blk_put (cs := #[.bool true, .string (⟨#[]⟩ : ByteArray), .int .i64 0]) ?_ 1 _ rfl; refine pk ?_; refine blk_put (cs := #[.bool false, .string (⟨#[]⟩ : ByteArray), .int .i64 0]) ?_ 0 _ rfl; refine pk ?_; exact BK343.out) hb); replace HB := am (below_step (pb HB) hb); (try clear hb); (try clear hb2); (try clear hk); (try clear hi)))
       replace HO_342002 := am (Kd.V_drew HO_342002.out)
       replace BK341 := am (blk_drew BK341.out)
       replace BK342 := am (blk_drew BK342.out)
       replace BK343 := am (blk_drew BK343.out)
       replace HB := am (below_drew1 HB.out)
       refine start_ (n := 8) (S := fun w' => w'.cell? ⟨gb341, 0, none⟩ = some (.int .u64 a0_0) ∧ w'.cell? ⟨gb341, 1, none⟩ = some (.int .u64 a0_1) ∧ w'.cell? ⟨gb341, 2, none⟩ = some (.slice A0_2 l0_2.length c0_2)) (ds := []) #[false, false, false, false, false, false, false, false] (by kernel_rfl) rfl rfl ⟨ce BK341 0, ce BK341 1, ce BK341 2⟩ (fun hHeld => ?_); refine with_tabW r12_Put.tab9 r12_Put.bits9 (fun HT_ HW_ => ?_)
       generalize w42.drew = w43 at HO_342002 BK341 BK342 BK343 HB hHeld ⊢
       refine pu 3 ?_
       refine ta 0 hHeld ?_
       refine ta 4 hHeld ?_
       refine pu 5 ?_
       refine pu 6 ?_
       refine on1 1 (fun K hK => ?_)
       refine gs Try.func19 #[.agg #[.int .u64 a0_0, .int .u64 a0_1, .slice A0_2 l0_2.length c0_2]] ?_
       with_reducible refine (r12_Many.calls kj9 a0_0 a0_1 _ _ l0_2 t350 _ ?side1 ?side2 A33.out).mono ?_
       (case side1 => repeat (first | exact (Kd.V_reads' HO_342002.out).2.2 | (with_reducible refine Kd.C_alloc ?_ _) | (with_reducible refine Kd.C_drewN ?_ _) | (with_reducible refine Kd.C_drew ?_)))
       (case side2 => exact (Kd.V_reads' HO_342002.out).2.1)
       rintro e w44 ⟨rfl, hb⟩
       refine ⟨_, rfl, ?_⟩
       replace HO_342002 := am (Kd.V_below (pv HO_342002.out) hb)
       replace BK341 := am (blk_below (pk BK341.out) hb)
       replace BK342 := am (blk_below (pk BK342.out) hb)
       replace BK343 := am (blk_below (pk BK343.out) hb)
       replace HB := am (below_step (pb HB) hb)
       (try clear hb)
       (try clear hb2)
       (try clear hk)
       (try clear hi)
       refine hK.out _ _ ⟨ce BK341 0, ce BK341 1, ce BK341 2⟩ (fun hHeld => ?_)
       clear hK K
       refine nm ?_
       refine pu 2 ?_
       refine pu 7 ?_
       refine done_ (done_of HT_.out (by kernel_rfl)) ?_
       have hcz45_0 := ce BK341 0
       have hcz45_1 := ce BK341 1
       have hcz45_2 := ce BK341 2
       have hfz45_0 := fz BK341 0
       have hfz45_1 := fz BK341 1
       have hfz45_2 := fz BK341 2
       have hcz46_0 := ce BK342 0
       have hcz46_1 := ce BK342 1
       have hcz46_2 := ce BK342 2
       have hfz46_0 := fz BK342 0
       have hfz46_1 := fz BK342 1
       have hfz46_2 := fz BK342 2
       try go_wp2
       refine bodyPost_ret (results_ct rfl _ _ gb342 30 #[.int .u64 a0_0, .int .u64 a0_1, .slice A0_2 l0_2.length c0_2] (0, 0) _ rfl (by refine pk ?_; refine blk_put (cs := #[.int .u64 a0_0, .int .u64 a0_1, .slice none 0 0]) ?_ 2 _ rfl; refine pk ?_; refine blk_put (cs := #[.int .u64 a0_0, .int .u64 0, .slice none 0 0]) ?_ 1 _ rfl; refine pk ?_; refine blk_put (cs := #[.int .u64 0, .int .u64 0, .slice none 0 0]) ?_ 0 _ rfl; refine pk ?_; exact BK342.out) Try.underlying30 rfl (by kernel_rfl)) rfl ?_
       exact ⟨_, by first | rfl | (simp [errW_none, errW_some] <;> rfl) | (simp [*, errW_none, errW_some] <;> rfl), by refine pv ?_; exact Kd.V_mono (Kd.V_far (p := ⟨gb342, 2, none⟩) (Kd.V_far (p := ⟨gb342, 1, none⟩) (Kd.V_far (p := ⟨gb342, 0, none⟩) (Kd.V_mono HO_342002.out (fun k_ hk => (⟨hk, hk.1.2.2⟩ : _ ∧ k_ ≠ gb342))) (fun _ hk => hk.2) (.int .u64 a0_0)) (fun _ hk => hk.2) (.int .u64 a0_1)) (fun _ hk => hk.2) (.slice A0_2 l0_2.length c0_2)) (fun _ hk => hk.1.1.1), pb HB⟩
      ·rw [if_neg c35] at H
       have c35b0 : ((l0_2.length : Int) == 4096) = false := beq_eq_false_iff_ne.mpr c35
       have c35b1 : ((l0_2.length : Int) != 4096) = true := bne_iff_ne.mpr c35
       obtain ⟨ji47, hji47⟩ : ∃ j_ : Int, (wrap64 (2 * (l0_2.length : Int))) = j_ := ⟨_, rfl⟩
       replace H : (if 0 ≤ (ji47) then (if (ji47 : Int).toNat ≤ 8796093022208 then (r12_Put.l0 kj9 0 a0_0 a0_1 l0_2 true a1 a2 a0_0 a0_1 (List.replicate (ji47 : Int).toNat z46)) else (none)) else (none)) = some (r1, r2, r3, r4) := by first | (rw [hji47] at H; exact H) | (simp only [hji47] at H ⊢; exact H)
       (try rw [hji47] at A18)
       (try rw [hji47] at A33)
       have hji47w : (IntKind.i64.wrap (2 * (l0_2.length : Int))) = ji47 := (i64_w _).trans hji47
       by_cases c48 : 0 ≤ (ji47)
       ·rw [if_pos c48] at H
        have c48b0 := eq_true c48
        have c48b1 : decide (0 ≤ (ji47)) = true := decide_eq_true c48
        clear c48
        by_cases c49 : (ji47 : Int).toNat ≤ 8796093022208
        ·rw [if_pos c49] at H
         have c49b0 := eq_true c49
         have c49b1 : decide ((ji47 : Int).toNat ≤ 8796093022208) = true := decide_eq_true c49
         clear c49
         obtain ⟨y351, hy351⟩ : ∃ y_ : List (S46), y_ = (List.replicate (ji47 : Int).toNat z46) := ⟨_, rfl⟩
         replace H : (r12_Put.l0 kj9 0 a0_0 a0_1 l0_2 true a1 a2 a0_0 a0_1 y351) = some (r1, r2, r3, r4) := by first | (rw [hy351]; with_reducible exact H) | (have H2_ := (Option.bind_some _ _).symm.trans H; rw [hy351]; with_reducible exact H2_) | (have H2_ := (Option.bind_some _ _).symm.trans H; with_reducible exact H2_) | with_reducible exact H | (rw [hy351]; exact H) | exact H
         have Ny351 := am hy351
         clear hy351
         have H' := am H
         clear H
         try go_wp2_with (first | ((with_reducible refine gate_dst (N := 8) rfl ?_); refine be 8 #[.bool false, .string (⟨#[]⟩ : ByteArray), .int .i64 0] 46 ?_; intro gb343 hg w50 hbox hb; have n0_ := am (Kd.V_below (Kd.V_elderB (pv HO_342002.out) gb343 (Nat.le_of_eq hg.symm)) hb); have n1_ := am (blk_below (pk BK341.out) hb); have n2_ := am (blk_below (pk BK342.out) hb); have n3_ := am (below_step (pb HB) hb); have n4_ := am (hbox); have n5_ := am ((pg hg HB : w.heap.size ≤ gb343)); have n6_ := am ((pg hg HB : w.heap.size ≤ gb343)); have n7_ := am ((pl hg (pk BK341.out) : gb341 ≠ gb343)); have n8_ := am ((pl' hg (pk BK341.out) : gb343 ≠ gb341)); have n9_ := am ((pl hg (pk BK342.out) : gb342 ≠ gb343)); have n10_ := am ((pl' hg (pk BK342.out) : gb343 ≠ gb342)); clear HO_342002; clear BK341; clear BK342; clear HB; have HO_342002 := n0_; have BK341 := n1_; have BK342 := n2_; have HB := n3_; have BK343 := n4_; have GW343 := n5_; have GE343 := n6_; have NB341_343 := n7_; have NB343_341 := n8_; have NB342_343 := n9_; have NB343_342 := n10_; clear n0_ n1_ n2_ n3_ n4_ n5_ n6_ n7_ n8_ n9_ n10_; clear hb hbox hg; have hnb51 := NB343_341.out; have hnc51 := NB341_343.out; have hnb52 := NB343_342.out; have hnc52 := NB342_343.out; have hcz53_0 := ce BK343 0; have hcz53_1 := ce BK343 1; have hcz53_2 := ce BK343 2; have hfz53_0 := fz BK343 0; have hfz53_1 := fz BK343 1; have hfz53_2 := fz BK343 2; have hnb54 := NB341_342.out; have hnc54 := NB342_341.out; have hcz55_0 := ce BK341 0; have hcz55_1 := ce BK341 1; have hcz55_2 := ce BK341 2; have hfz55_0 := fz BK341 0; have hfz55_1 := fz BK341 1; have hfz55_2 := fz BK341 2) | ((with_reducible refine gate_callee (f := 18) rfl ?_); refine gl (some 28) Try.func18 #[.agg #[.int .u64 a0_0, .int .u64 a0_1, .slice A0_2 l0_2.length c0_2], .string a1] ?_; (with_reducible refine (r12_Find.calls kj9 a0_0 a0_1 _ _ l0_2 a1 t344 _ ?side1 ?side2 A18.out).mono ?_); (case side1 => refine (Kd.V_reads' (e := 46) (base := w.heap.size) (ok := fun k_ => (((P0_2_ k_ ∨ w.heap.size ≤ k_) ∧ (k_ ≠ gb341 ∧ k_ ≠ gb342)) ∧ k_ ≠ gb343)) (n := l0_2.length) (c := c0_2) ?_).2.2; exact (pv ((Kd.V_mono (Kd.V_far (p := ⟨gb343, 2, none⟩) (Kd.V_far (p := ⟨gb343, 1, none⟩) (Kd.V_far (p := ⟨gb343, 0, none⟩) (Kd.V_mono HO_342002.out (fun k_ hk => (⟨hk, hk.2⟩ : _ ∧ k_ ≠ gb343))) (fun _ hk => hk.2) (.bool true)) (fun _ hk => hk.2) (.string a1)) (fun _ hk => hk.2) (.int .i64 a2)) (fun _ h_ => h_.1))))); (case side2 => exact (Kd.V_reads' HO_342002.out).2.1); rintro e w56 ⟨rfl, hb⟩; refine ⟨_, rfl, ?_⟩; replace HO_342002 := am (Kd.V_below (pv ((Kd.V_mono (Kd.V_far (p := ⟨gb343, 2, none⟩) (Kd.V_far (p := ⟨gb343, 1, none⟩) (Kd.V_far (p := ⟨gb343, 0, none⟩) (Kd.V_mono HO_342002.out (fun k_ hk => (⟨hk, hk.2⟩ : _ ∧ k_ ≠ gb343))) (fun _ hk => hk.2) (.bool true)) (fun _ hk => hk.2) (.string a1)) (fun _ hk => hk.2) (.int .i64 a2)) (fun _ h_ => h_.1)))) hb); replace BK341 := am (blk_below (g := gb341) (o := .cells #[.int .u64 a0_0, .int .u64 a0_1, .slice A0_2 l0_2.length c0_2] 30 (0, 0)) (by refine pk ?_; refine blk_far ?_ NB341_343.out _; refine pk ?_; refine blk_far ?_ NB341_343.out _; refine pk ?_; refine blk_far ?_ NB341_343.out _; refine pk ?_; exact BK341.out) hb); replace BK342 := am (blk_below (g := gb342) (o := .cells #[.int .u64 0, .int .u64 0, .slice none 0 0] 30 (0, 0)) (by refine pk ?_; refine blk_far ?_ NB342_343.out _; refine pk ?_; refine blk_far ?_ NB342_343.out _; refine pk ?_; refine blk_far ?_ NB342_343.out _; refine pk ?_; exact BK342.out) hb); replace BK343 := am (blk_below (g := gb343) (o := .cells #[.bool true, .string a1, .int .i64 a2] 46 (0, 0)) (by refine pk ?_; refine blk_put (cs := #[.bool true, .string a1, .int .i64 0]) ?_ 2 _ rfl; refine pk ?_; refine blk_put (cs := #[.bool true, .string (⟨#[]⟩ : ByteArray), .int .i64 0]) ?_ 1 _ rfl; refine pk ?_; refine blk_put (cs := #[.bool false, .string (⟨#[]⟩ : ByteArray), .int .i64 0]) ?_ 0 _ rfl; refine pk ?_; exact BK343.out) hb); replace HB := am (below_step (pb HB) hb); (try clear hb); (try clear hb2); (try clear hk); (try clear hi)))
         replace HO_342002 := am (Kd.V_drew HO_342002.out)
         replace BK341 := am (blk_drew BK341.out)
         replace BK342 := am (blk_drew BK342.out)
         replace BK343 := am (blk_drew BK343.out)
         replace HB := am (below_drew1 HB.out)
         refine start_ (n := 8) (S := fun w' => w'.cell? ⟨gb341, 0, none⟩ = some (.int .u64 a0_0) ∧ w'.cell? ⟨gb341, 1, none⟩ = some (.int .u64 a0_1) ∧ w'.cell? ⟨gb341, 2, none⟩ = some (.slice A0_2 l0_2.length c0_2)) (ds := []) #[false, false, false, false, false, false, false, false] (by kernel_rfl) rfl rfl ⟨ce BK341 0, ce BK341 1, ce BK341 2⟩ (fun hHeld => ?_); refine with_tabW r12_Put.tab9 r12_Put.bits9 (fun HT_ HW_ => ?_)
         generalize w56.drew = w57 at HO_342002 BK341 BK342 BK343 HB hHeld ⊢
         refine pu 3 ?_
         refine ta 0 hHeld ?_
         refine ta 4 hHeld ?_
         refine pu 5 ?_
         refine pu 6 ?_
         refine on1 1 (fun K hK => ?_)
         refine gs Try.func19 #[.agg #[.int .u64 a0_0, .int .u64 a0_1, .slice A0_2 l0_2.length c0_2]] ?_
         with_reducible refine (r12_Many.calls kj9 a0_0 a0_1 _ _ l0_2 t350 _ ?side1 ?side2 A33.out).mono ?_
         (case side1 => repeat (first | exact (Kd.V_reads' HO_342002.out).2.2 | (with_reducible refine Kd.C_alloc ?_ _) | (with_reducible refine Kd.C_drewN ?_ _) | (with_reducible refine Kd.C_drew ?_)))
         (case side2 => exact (Kd.V_reads' HO_342002.out).2.1)
         rintro e w58 ⟨rfl, hb⟩
         refine ⟨_, rfl, ?_⟩
         replace HO_342002 := am (Kd.V_below (pv HO_342002.out) hb)
         replace BK341 := am (blk_below (pk BK341.out) hb)
         replace BK342 := am (blk_below (pk BK342.out) hb)
         replace BK343 := am (blk_below (pk BK343.out) hb)
         replace HB := am (below_step (pb HB) hb)
         (try clear hb)
         (try clear hb2)
         (try clear hk)
         (try clear hi)
         refine hK.out _ _ ⟨ce BK341 0, ce BK341 1, ce BK341 2⟩ (fun hHeld => ?_)
         clear hK K
         refine nm ?_
         refine pu 2 ?_
         refine pu 7 ?_
         refine done_ (done_of HT_.out (by kernel_rfl)) ?_
         have hcz59_0 := ce BK341 0
         have hcz59_1 := ce BK341 1
         have hcz59_2 := ce BK341 2
         have hfz59_0 := fz BK341 0
         have hfz59_1 := fz BK341 1
         have hfz59_2 := fz BK341 2
         try go_wp2
         replace HO_342002 := am (Kd.V_drew HO_342002.out)
         replace BK341 := am (blk_drew BK341.out)
         replace BK342 := am (blk_drew BK342.out)
         replace BK343 := am (blk_drew BK343.out)
         replace HB := am (below_drew1 HB.out)
         refine start_ (n := 10) (S := fun w' => w'.cell? ⟨gb341, 0, none⟩ = some (.int .u64 a0_0) ∧ w'.cell? ⟨gb341, 1, none⟩ = some (.int .u64 a0_1) ∧ w'.cell? ⟨gb341, 2, none⟩ = some (.slice A0_2 l0_2.length c0_2)) (ds := []) #[false, false, false, false, false, false, false, false, false, false] (by kernel_rfl) rfl rfl ⟨ce BK341 0, ce BK341 1, ce BK341 2⟩ (fun hHeld => ?_); refine with_tabW r12_Put.tab12 r12_Put.bits12 (fun HT_ HW_ => ?_)
         generalize w58.drew = w60 at HO_342002 BK341 BK342 BK343 HB hHeld ⊢
         refine pu 0 ?_
         refine pu 2 ?_
         refine ta 1 hHeld ?_
         refine ta 3 hHeld ?_
         refine pu 4 ?_
         refine pu 5 ?_
         refine join_ (σ := Value × Nat) 1 #[true, true, true, true, true, true, true, true, true, false] (fun s_ => [(54, s_.1), (10, .pointer (some ⟨s_.2, 0, none⟩)), (55, .agg #[.int .u64 a0_0, .int .u64 a0_1, s_.1])]) (fun s_ w' => (w'.cell? ⟨gb341, 0, none⟩ = some (.int .u64 a0_0) ∧ w'.cell? ⟨gb341, 1, none⟩ = some (.int .u64 a0_1) ∧ w'.cell? ⟨gb341, 2, none⟩ = some (.slice A0_2 l0_2.length c0_2)) ∧ (Kd.R k46 46 w' w.heap.size (fun k_ => (w.heap.size ≤ k_) ∧ k_ ≠ gb343) s_.1 y351) ∧ (Kd.V k46 46 w' w.heap.size (fun k_ => (P0_2_ k_ ∨ w.heap.size ≤ k_) ∧ some k_ ≠ (s_.1 : Value).ownBlock ∧ k_ ≠ gb341 ∧ k_ ≠ gb342 ∧ k_ ≠ gb343 ∧ k_ ≠ s_.2) (.slice A0_2 l0_2.length c0_2) l0_2) ∧ (w'.heap[gb341]? = some (.cells #[.int .u64 a0_0, .int .u64 a0_1, .slice A0_2 l0_2.length c0_2] 30 (0, 0))) ∧ (w'.heap[gb342]? = some (.cells #[.int .u64 0, .int .u64 0, .slice none 0 0] 30 (0, 0))) ∧ (w'.heap[gb343]? = some (.cells #[.bool true, .string a1, .int .i64 a2] 46 (0, 0))) ∧ (w'.heap[s_.2]? = some (.cells #[.int .u64 0, .int .u64 0, .slice none 0 0] 30 (0, 0))) ∧ (w.heap.size ≤ s_.2) ∧ (w.heap.size ≤ s_.2) ∧ (gb341 ≠ s_.2) ∧ (s_.2 ≠ gb341) ∧ (gb342 ≠ s_.2) ∧ (s_.2 ≠ gb342) ∧ (gb343 ≠ s_.2) ∧ (s_.2 ≠ gb343) ∧ (Below w.heap.size w w')) ?_ ?_
         rotate_left
         ·intro hCont
          refine two_ (i := 6) (j := 8) (Ni := some 54) (Nj := some 10) #[true, true, true, true, true, true, true, false, false, false] #[true, true, true, true, true, true, false, false, true, false] rfl rfl rfl rfl (two_of HT_.out (by kernel_rfl)) (by decide) (by decide) (fun K hK => ?_) (fun K hK => ?_)
          ·skip
           refine Kd.R_make_step k46 _ 46 (by rfl) (N := 54) rfl 28 _ _ rfl ji47 rfl rfl Try.underlying28 (.agg #[(.bool false), (.string ⟨#[]⟩), (.int .i64 0)]) 32 info46 rfl (by decide) (by omega) z46 (ok := fun _ => True) (okp := fun _ => True) (k46_mkM _ _ _ z46 ) (fun _ hk => hk) trivial (of_decide_eq_true (by first | (with_reducible assumption) | assumption)) (Nat.le_trans (Nat.mul_le_mul_right _ (of_decide_eq_true (by first | (with_reducible assumption) | assumption) : ji47.toNat ≤ 8796093022208)) (by omega)) (Below.refl _ _) (Nat.le_refl _) ?_
           intro v352 w61 ho62 hb hg_ hnew_
           clear hg_ hnew_
           (first | rw [← Ny351.out] at ho62 | (simp only [Int.reduceToNat] at ho62; rw [← Ny351.out] at ho62))
           have n0_ := am (Kd.V_elder' (pv HO_342002.out) (Kd.R_base ho62) hb)
           have n1_ := am (Kd.R_lower (Kd.R_newB (Kd.R_newM (M := fun k_ => (w.heap.size ≤ k_)) ho62 (below_size (pb HB)) (fun k_ h_ => h_)) (g := gb343) (o := .cells #[.bool true, .string a1, .int .i64 a2] 46 (0, 0)) (pk BK343.out)) (below_size (pb HB)))
           have n2_ := am (blk_below (pk BK341.out) hb)
           have n3_ := am (blk_below (pk BK342.out) hb)
           have n4_ := am (blk_below (pk BK343.out) hb)
           have n5_ := am (below_step (pb HB) hb)
           clear HO_342002 BK341 BK342 BK343 HB
           have HO_342002 := n0_
           have HO353 := n1_
           have BK341 := n2_
           have BK342 := n3_
           have BK343 := n4_
           have HB := n5_
           clear n0_ n1_ n2_ n3_ n4_ n5_ hb ho62
           obtain ⟨Ao63, co63, eo63⟩ := Kd.R_slice HO353.out
           (first | subst eo63 | (injection eo63 with f1_ f2_ f3_; have f4_ := f1_.symm; have f5_ := f3_.symm; clear f1_ f2_ f3_; subst f4_; subst f5_))
           refine hK.out _ _ ⟨ce BK341 0, ce BK341 1, ce BK341 2⟩ (fun hHeld => ?_)
           clear hK K
           refine nm ?_
           refine pu 7 ?_
           refine on1 8 (fun K hK => ?_)
           refine bx 10 #[.int .u64 0, .int .u64 0, .slice none 0 0] 30 ?_
           intro gb354 hg w64 hbox hb
           have n0_ := am (Kd.V_below (Kd.V_elderB (pv HO_342002.out) gb354 (Nat.le_of_eq hg.symm)) hb)
           have n1_ := am (Kd.R_below (pr HO353.out) hb)
           have n2_ := am (blk_below (pk BK341.out) hb)
           have n3_ := am (blk_below (pk BK342.out) hb)
           have n4_ := am (blk_below (pk BK343.out) hb)
           have n5_ := am (below_step (pb HB) hb)
           have n6_ := am (hbox)
           have n7_ := am ((pg hg HB : w.heap.size ≤ gb354))
           have n8_ := am ((pg hg HB : w.heap.size ≤ gb354))
           have n9_ := am ((pl hg (pk BK341.out) : gb341 ≠ gb354))
           have n10_ := am ((pl' hg (pk BK341.out) : gb354 ≠ gb341))
           have n11_ := am ((pl hg (pk BK342.out) : gb342 ≠ gb354))
           have n12_ := am ((pl' hg (pk BK342.out) : gb354 ≠ gb342))
           have n13_ := am ((pl hg (pk BK343.out) : gb343 ≠ gb354))
           have n14_ := am ((pl' hg (pk BK343.out) : gb354 ≠ gb343))
           clear HO_342002 HO353 BK341 BK342 BK343 HB
           have HO_342002 := n0_
           have HO353 := n1_
           have BK341 := n2_
           have BK342 := n3_
           have BK343 := n4_
           have HB := n5_
           have BK354 := n6_
           have GW354 := n7_
           have GE354 := n8_
           have NB341_354 := n9_
           have NB354_341 := n10_
           have NB342_354 := n11_
           have NB354_342 := n12_
           have NB343_354 := n13_
           have NB354_343 := n14_
           clear n0_ n1_ n2_ n3_ n4_ n5_ n6_ n7_ n8_ n9_ n10_ n11_ n12_ n13_ n14_ hb hbox hg
           refine hK.out _ _ ⟨ce BK341 0, ce BK341 1, ce BK341 2⟩ (fun hHeld => ?_)
           clear hK K
           refine nm ?_
           exact nj (hCont (.slice Ao63 y351.length co63, gb354) _ ⟨hHeld, (pr (Kd.R_mono HO353.out (fun _ hk => ⟨hk.1.1, hk.2⟩))), (pv (Kd.V_mono HO_342002.out (fun _ hk => ⟨hk.1.1.1.1, ⟨hk.1.2, ⟨hk.1.1.1.2.1, ⟨hk.1.1.1.2.2, ⟨hk.1.1.2, hk.2⟩⟩⟩⟩⟩))), (pk BK341.out), (pk BK342.out), (pk BK343.out), (pk BK354.out), GW354.out, GE354.out, NB341_354.out, NB354_341.out, NB342_354.out, NB354_342.out, NB343_354.out, NB354_343.out, (pb HB)⟩)
          ·skip
           refine bx 10 #[.int .u64 0, .int .u64 0, .slice none 0 0] 30 ?_
           intro gb354 hg w61 hbox hb
           have n0_ := am (Kd.V_below (Kd.V_elderB (pv HO_342002.out) gb354 (Nat.le_of_eq hg.symm)) hb)
           have n1_ := am (blk_below (pk BK341.out) hb)
           have n2_ := am (blk_below (pk BK342.out) hb)
           have n3_ := am (blk_below (pk BK343.out) hb)
           have n4_ := am (below_step (pb HB) hb)
           have n5_ := am (hbox)
           have n6_ := am ((pg hg HB : w.heap.size ≤ gb354))
           have n7_ := am ((pg hg HB : w.heap.size ≤ gb354))
           have n8_ := am ((pl hg (pk BK341.out) : gb341 ≠ gb354))
           have n9_ := am ((pl' hg (pk BK341.out) : gb354 ≠ gb341))
           have n10_ := am ((pl hg (pk BK342.out) : gb342 ≠ gb354))
           have n11_ := am ((pl' hg (pk BK342.out) : gb354 ≠ gb342))
           have n12_ := am ((pl hg (pk BK343.out) : gb343 ≠ gb354))
           have n13_ := am ((pl' hg (pk BK343.out) : gb354 ≠ gb343))
           clear HO_342002 BK341 BK342 BK343 HB
           have HO_342002 := n0_
           have BK341 := n1_
           have BK342 := n2_
           have BK343 := n3_
           have HB := n4_
           have BK354 := n5_
           have GW354 := n6_
           have GE354 := n7_
           have NB341_354 := n8_
           have NB354_341 := n9_
           have NB342_354 := n10_
           have NB354_342 := n11_
           have NB343_354 := n12_
           have NB354_343 := n13_
           clear n0_ n1_ n2_ n3_ n4_ n5_ n6_ n7_ n8_ n9_ n10_ n11_ n12_ n13_ hb hbox hg
           refine hK.out _ _ ⟨ce BK341 0, ce BK341 1, ce BK341 2⟩ (fun hHeld => ?_)
           clear hK K
           refine nm ?_
           refine on1 6 (fun K hK => ?_)
           refine Kd.R_make_step k46 _ 46 (by rfl) (N := 54) rfl 28 _ _ rfl ji47 rfl rfl Try.underlying28 (.agg #[(.bool false), (.string ⟨#[]⟩), (.int .i64 0)]) 32 info46 rfl (by decide) (by omega) z46 (ok := fun _ => True) (okp := fun _ => True) (k46_mkM _ _ _ z46 ) (fun _ hk => hk) trivial (of_decide_eq_true (by first | (with_reducible assumption) | assumption)) (Nat.le_trans (Nat.mul_le_mul_right _ (of_decide_eq_true (by first | (with_reducible assumption) | assumption) : ji47.toNat ≤ 8796093022208)) (by omega)) (Below.refl _ _) (Nat.le_refl _) ?_
           intro v352 w62 ho63 hb hg_ hnew_
           clear hg_ hnew_
           (first | rw [← Ny351.out] at ho63 | (simp only [Int.reduceToNat] at ho63; rw [← Ny351.out] at ho63))
           have n0_ := am (Kd.V_elder' (pv HO_342002.out) (Kd.R_base ho63) hb)
           have n1_ := am (Kd.R_lower (Kd.R_newB (Kd.R_newM (M := fun k_ => (w.heap.size ≤ k_)) ho63 (below_size (pb HB)) (fun k_ h_ => h_)) (g := gb343) (o := .cells #[.bool true, .string a1, .int .i64 a2] 46 (0, 0)) (pk BK343.out)) (below_size (pb HB)))
           have n2_ := am (blk_below (pk BK341.out) hb)
           have n3_ := am (blk_below (pk BK342.out) hb)
           have n4_ := am (blk_below (pk BK343.out) hb)
           have n5_ := am (blk_below (pk BK354.out) hb)
           have n6_ := am (below_step (pb HB) hb)
           clear HO_342002 BK341 BK342 BK343 BK354 HB
           have HO_342002 := n0_
           have HO353 := n1_
           have BK341 := n2_
           have BK342 := n3_
           have BK343 := n4_
           have BK354 := n5_
           have HB := n6_
           clear n0_ n1_ n2_ n3_ n4_ n5_ n6_ hb ho63
           obtain ⟨Ao64, co64, eo64⟩ := Kd.R_slice HO353.out
           (first | subst eo64 | (injection eo64 with f1_ f2_ f3_; have f4_ := f1_.symm; have f5_ := f3_.symm; clear f1_ f2_ f3_; subst f4_; subst f5_))
           refine hK.out _ _ ⟨ce BK341 0, ce BK341 1, ce BK341 2⟩ (fun hHeld => ?_)
           clear hK K
           refine nm ?_
           refine pu 7 ?_
           exact nj (hCont (.slice Ao64 y351.length co64, gb354) _ ⟨hHeld, (pr (Kd.R_mono HO353.out (fun _ hk => ⟨hk.1.1, hk.2⟩))), (pv (Kd.V_mono HO_342002.out (fun _ hk => ⟨hk.1.1.1.1, ⟨hk.2, ⟨hk.1.1.1.2.1, ⟨hk.1.1.1.2.2, ⟨hk.1.1.2, hk.1.2⟩⟩⟩⟩⟩))), (pk BK341.out), (pk BK342.out), (pk BK343.out), (pk BK354.out), GW354.out, GE354.out, NB341_354.out, NB354_341.out, NB342_354.out, NB354_342.out, NB343_354.out, NB354_343.out, (pb HB)⟩)
         rintro ⟨v352, gb354⟩ w65 ⟨hS_, h0_, h1_, h2_, h3_, h4_, h5_, h6_, h7_, h8_, h9_, h10_, h11_, h12_, h13_, h14_⟩
         have HO353 : Aside0 (Kd.R k46 46 w65 w.heap.size (fun k_ => (w.heap.size ≤ k_) ∧ k_ ≠ gb343) v352 y351) := ⟨h0_⟩
         replace HO_342002 : Aside0 (Kd.V k46 46 w65 w.heap.size (fun k_ => (P0_2_ k_ ∨ w.heap.size ≤ k_) ∧ some k_ ≠ (v352 : Value).ownBlock ∧ k_ ≠ gb341 ∧ k_ ≠ gb342 ∧ k_ ≠ gb343 ∧ k_ ≠ gb354) (.slice A0_2 l0_2.length c0_2) l0_2) := ⟨h1_⟩
         replace BK341 : Aside0 (w65.heap[gb341]? = some (.cells #[.int .u64 a0_0, .int .u64 a0_1, .slice A0_2 l0_2.length c0_2] 30 (0, 0))) := ⟨h2_⟩
         replace BK342 : Aside0 (w65.heap[gb342]? = some (.cells #[.int .u64 0, .int .u64 0, .slice none 0 0] 30 (0, 0))) := ⟨h3_⟩
         replace BK343 : Aside0 (w65.heap[gb343]? = some (.cells #[.bool true, .string a1, .int .i64 a2] 46 (0, 0))) := ⟨h4_⟩
         have BK354 : Aside0 (w65.heap[gb354]? = some (.cells #[.int .u64 0, .int .u64 0, .slice none 0 0] 30 (0, 0))) := ⟨h5_⟩
         have GW354 : Aside0 (w.heap.size ≤ gb354) := ⟨h6_⟩
         have GE354 : Aside0 (w.heap.size ≤ gb354) := ⟨h7_⟩
         have NB341_354 : Aside0 (gb341 ≠ gb354) := ⟨h8_⟩
         have NB354_341 : Aside0 (gb354 ≠ gb341) := ⟨h9_⟩
         have NB342_354 : Aside0 (gb342 ≠ gb354) := ⟨h10_⟩
         have NB354_342 : Aside0 (gb354 ≠ gb342) := ⟨h11_⟩
         have NB343_354 : Aside0 (gb343 ≠ gb354) := ⟨h12_⟩
         have NB354_343 : Aside0 (gb354 ≠ gb343) := ⟨h13_⟩
         replace HB : Aside0 (Below w.heap.size w w65) := ⟨h14_⟩
         clear h0_ h1_ h2_ h3_ h4_ h5_ h6_ h7_ h8_ h9_ h10_ h11_ h12_ h13_ h14_
         have hHeld : w65.cell? ⟨gb341, 0, none⟩ = some (.int .u64 a0_0) ∧ w65.cell? ⟨gb341, 1, none⟩ = some (.int .u64 a0_1) ∧ w65.cell? ⟨gb341, 2, none⟩ = some (.slice A0_2 l0_2.length c0_2) := hS_
         obtain ⟨Ao66, co66, eo66⟩ := Kd.R_slice HO353.out
         (first | subst eo66 | (injection eo66 with f1_ f2_ f3_; have f4_ := f1_.symm; have f5_ := f3_.symm; clear f1_ f2_ f3_; subst f4_; subst f5_))
         refine norm_ (a' := ?_) ?_ ?_
         rotate_left
         ·simp only [putAll, Act.put, List.setIfInBounds_toArray, List.set_cons_zero, List.set_cons_succ]
          rfl
         refine one_ (i := 9) (N := none) #[true, true, true, true, true, true, true, true, true, true] rfl rfl (one_of HT_.out (by kernel_rfl)) (by decide) (fun K hK => ?_)
         have hs67 : w65.cell? ⟨gb354, 0, none⟩ = some (.int .u64 0) := ce BK354 0
         have hfs67 := blk_frozen BK354.out 0
         have hns67_0 := NB341_354.out
         have hns67_1 := NB342_354.out
         have hns67_2 := NB343_354.out
         have hms67_0 := NB354_341.out
         have hms67_1 := NB354_342.out
         have hms67_2 := NB354_343.out
         have hs68 : w65.cell? ⟨gb354, 1, none⟩ = some (.int .u64 0) := ce BK354 1
         have hfs68 := blk_frozen BK354.out 1
         have hns68_0 := NB341_354.out
         have hns68_1 := NB342_354.out
         have hns68_2 := NB343_354.out
         have hms68_0 := NB354_341.out
         have hms68_1 := NB354_342.out
         have hms68_2 := NB354_343.out
         have hs69 : w65.cell? ⟨gb354, 2, none⟩ = some (.slice none 0 0) := ce BK354 2
         have hfs69 := blk_frozen BK354.out 2
         have hns69_0 := NB341_354.out
         have hns69_1 := NB342_354.out
         have hns69_2 := NB343_354.out
         have hms69_0 := NB354_341.out
         have hms69_1 := NB354_342.out
         have hms69_2 := NB354_343.out
         refine skip_ (w1 := ?_) (by rfl) rfl ?_ ?_
         rotate_left
         ·go_simp
          rfl
         refine hK.out _ _ ⟨((cell_far (p := ⟨gb354, _, none⟩) NB341_354.out _).trans (((cell_far (p := ⟨gb354, _, none⟩) NB341_354.out _).trans (((cell_far (p := ⟨gb354, _, none⟩) NB341_354.out _).trans (hHeld.1)))))), ((cell_far (p := ⟨gb354, _, none⟩) NB341_354.out _).trans (((cell_far (p := ⟨gb354, _, none⟩) NB341_354.out _).trans (((cell_far (p := ⟨gb354, _, none⟩) NB341_354.out _).trans (hHeld.2.1)))))), ((cell_far (p := ⟨gb354, _, none⟩) NB341_354.out _).trans (((cell_far (p := ⟨gb354, _, none⟩) NB341_354.out _).trans (((cell_far (p := ⟨gb354, _, none⟩) NB341_354.out _).trans (hHeld.2.2))))))⟩ (fun hHeld => ?_)
         clear hK K
         refine done_ (done_of HT_.out (by kernel_rfl)) ?_
         try go_wp2
         go_loopg [11] kj9 (fun kq v11 w' => ∃ (x11_2 : Int) (x355000_2 : Int) (x355001_2 : Int) (x355002_2 : List (S46)) (u355002 : Value), v11 = .int .i64 x11_2 ∧ Aside0 (r12_Put.l0 kq x11_2 a0_0 a0_1 l0_2 true a1 a2 x355000_2 x355001_2 x355002_2 = some (r1, r2, r3, r4)) ∧ Aside0 (kq ≤ kj9) ∧ Aside0 (Kd.V k46 46 w' w.heap.size (fun k_ => (P0_2_ k_ ∨ w.heap.size ≤ k_) ∧ some k_ ≠ (u355002 : Value).ownBlock ∧ k_ ≠ gb341 ∧ k_ ≠ gb342 ∧ k_ ≠ gb343 ∧ k_ ≠ gb354) (.slice A0_2 l0_2.length c0_2) l0_2) ∧ Aside0 (Kd.R k46 46 w' w.heap.size (fun k_ => (w.heap.size ≤ k_) ∧ k_ ≠ gb343) u355002 x355002_2) ∧ Aside0 (w'.heap[gb341]? = some (.cells #[.int .u64 a0_0, .int .u64 a0_1, (.slice A0_2 l0_2.length c0_2)] 30 (0, 0))) ∧ Aside0 (w'.heap[gb342]? = some (.cells #[.int .u64 0, .int .u64 0, (.slice none 0 0)] 30 (0, 0))) ∧ Aside0 (w'.heap[gb343]? = some (.cells #[.bool true, .string a1, .int .i64 a2] 46 (0, 0))) ∧ Aside0 (w'.heap[gb354]? = some (.cells #[.int .u64 x355000_2, .int .u64 x355001_2, u355002] 30 (0, 0))) ∧ Aside0 (Below w.heap.size w w'))
         case atStart => exact ⟨(0), (a0_0), (a0_1), (y351), (.slice Ao66 y351.length co66), (by first | rfl | (simp; done) | (simp [*]; done)), H', ⟨Nat.le_refl _⟩, ⟨by refine pv ?_; exact Kd.V_mono (Kd.V_far (p := ⟨gb354, 2, none⟩) (Kd.V_far (p := ⟨gb354, 1, none⟩) (Kd.V_far (p := ⟨gb354, 0, none⟩) (Kd.V_mono HO_342002.out (fun k_ hk => (⟨hk, hk.2.2.2.2.2⟩ : _ ∧ k_ ≠ gb354))) (fun _ hk => hk.2) (.int .u64 a0_0)) (fun _ hk => hk.2) (.int .u64 a0_1)) (fun _ hk => hk.2) (.slice Ao66 y351.length co66)) (fun _ hk => ⟨hk.1.1, ⟨hk.1.2.1, ⟨hk.1.2.2.1, ⟨hk.1.2.2.2.1, ⟨hk.1.2.2.2.2.1, hk.1.2.2.2.2.2⟩⟩⟩⟩⟩)⟩, ⟨by refine pr ?_; exact Kd.R_mono (Kd.R_far (p := ⟨gb354, 2, none⟩) (Kd.R_far (p := ⟨gb354, 1, none⟩) (Kd.R_far (p := ⟨gb354, 0, none⟩) (Kd.R_types HO353.out BK354.out (by decide)) (fun _ hk => hk.2) (.int .u64 a0_0)) (fun _ hk => hk.2) (.int .u64 a0_1)) (fun _ hk => hk.2) (.slice Ao66 y351.length co66)) (fun _ hk => ⟨hk.1.1, hk.1.2⟩)⟩, ⟨by refine pk ?_; refine blk_far ?_ NB341_354.out _; refine pk ?_; refine blk_far ?_ NB341_354.out _; refine pk ?_; refine blk_far ?_ NB341_354.out _; refine pk ?_; exact BK341.out⟩, ⟨by refine pk ?_; refine blk_far ?_ NB342_354.out _; refine pk ?_; refine blk_far ?_ NB342_354.out _; refine pk ?_; refine blk_far ?_ NB342_354.out _; refine pk ?_; exact BK342.out⟩, ⟨by refine pk ?_; refine blk_far ?_ NB343_354.out _; refine pk ?_; refine blk_far ?_ NB343_354.out _; refine pk ?_; refine blk_far ?_ NB343_354.out _; refine pk ?_; exact BK343.out⟩, ⟨by refine pk ?_; refine blk_put (cs := #[.int .u64 a0_0, .int .u64 a0_1, .slice none 0 0]) ?_ 2 _ rfl; refine pk ?_; refine blk_put (cs := #[.int .u64 a0_0, .int .u64 0, .slice none 0 0]) ?_ 1 _ rfl; refine pk ?_; refine blk_put (cs := #[.int .u64 0, .int .u64 0, .slice none 0 0]) ?_ 0 _ rfl; refine pk ?_; exact BK354.out⟩, ⟨pb HB⟩⟩
         case round =>
          clear H'
          try clear c1
          try clear p2
          try clear c3
          try clear c4
          try clear c5
          try clear p6
          try clear c18
          try clear c19
          try clear c35
          try clear c35b0
          try clear c35b1
          try clear c37
          try clear c38
          try clear c40
          try clear c48
          try clear c48b0
          try clear c48b1
          try clear c49
          try clear c49b0
          try clear c49b1
          try clear c51
          try clear c52
          try clear c54
          try clear p64
          try clear hcz39_0 hcz39_1 hcz39_2
          try clear hcz41_0 hcz41_1 hcz41_2
          try clear hcz45_0 hcz45_1 hcz45_2
          try clear hcz46_0 hcz46_1 hcz46_2
          try clear hcz53_0 hcz53_1 hcz53_2
          try clear hcz55_0 hcz55_1 hcz55_2
          try clear hcz59_0 hcz59_1 hcz59_2
          try clear hfz39_0 hfz39_1 hfz39_2
          try clear hfz41_0 hfz41_1 hfz41_2
          try clear hfz45_0 hfz45_1 hfz45_2
          try clear hfz46_0 hfz46_1 hfz46_2
          try clear hfz53_0 hfz53_1 hfz53_2
          try clear hfz55_0 hfz55_1 hfz55_2
          try clear hfz59_0 hfz59_1 hfz59_2
          obtain ⟨x11_2, x355000_2, x355001_2, x355002_2, u355002, rfl, HA, HK2, HO_342002, HO_355002, BK341, BK342, BK343, BK354, HB⟩ := hrel
          cases gk with
          | zero => exact absurd HA.out (by simp [r12_Put.l0])
          | succ k2 =>
           have H := HA.out
           clear HA
           simp only [r12_Put.l0] at H
           by_cases c70 : x11_2 < (l0_2.length : Int)
           ·rw [if_pos c70] at H
            have c70b0 : decide (x11_2 < (l0_2.length : Int)) = true := decide_eq_true c70
            clear c70
            by_cases c71 : 0 ≤ x11_2
            ·rw [if_pos c71] at H
             have c71b0 : decide (0 ≤ x11_2) = true := decide_eq_true c71
             clear c71
             obtain ⟨bq72, hbq72⟩ : ∃ b_ : Bool, b_ = ((rd_T46 l0_2 x11_2).f0) := ⟨_, rfl⟩
             replace H : (if bq72 = true then ((r12_lay.f k2 x355000_2 x355001_2 x355002_2 (bq72) ((rd_T46 l0_2 x11_2).f1) ((rd_T46 l0_2 x11_2).f2)).bind fun bt357 => (r12_Put.l0 k2 (wrap64 (x11_2 + 1)) a0_0 a0_1 l0_2 true a1 a2 bt357.1 bt357.2.1 bt357.2.2)) else (r12_Put.l0 k2 (wrap64 (x11_2 + 1)) a0_0 a0_1 l0_2 true a1 a2 x355000_2 x355001_2 x355002_2)) = some (r1, r2, r3, r4) := by rw [← hbq72] at H; exact H
             have Nbq72 := am hbq72
             clear hbq72
             by_cases c73 : bq72 = true
             ·subst c73
              have H1 : ((r12_lay.f k2 x355000_2 x355001_2 x355002_2 (true) ((rd_T46 l0_2 x11_2).f1) ((rd_T46 l0_2 x11_2).f2)).bind fun bt357 => (r12_Put.l0 k2 (wrap64 (x11_2 + 1)) a0_0 a0_1 l0_2 true a1 a2 bt357.1 bt357.2.1 bt357.2.2)) = some (r1, r2, r3, r4) := by rw [if_pos rfl] at H; exact H
              clear H
              have H := H1
              clear H1
              replace H := Option.bind_eq_some_iff.mp H
              obtain ⟨⟨t357, t358, t359⟩, A740, H⟩ := H
              replace H : (r12_Put.l0 k2 (wrap64 (x11_2 + 1)) a0_0 a0_1 l0_2 true a1 a2 t357 t358 t359) = some (r1, r2, r3, r4) := H
              have A74 := am A740
              clear A740
              have H' := am H
              clear H
              have hnb75 := NB341_342.out
              have hnc75 := NB342_341.out
              have hnb76 := NB341_343.out
              have hnc76 := NB343_341.out
              have hnb77 := NB341_354.out
              have hnc77 := NB354_341.out
              have hcz78_0 := ce BK341 0
              have hcz78_1 := ce BK341 1
              have hcz78_2 := ce BK341 2
              have hfz78_0 := fz BK341 0
              have hfz78_1 := fz BK341 1
              have hfz78_2 := fz BK341 2
              have p355 : 0 ≤ (x11_2 : Int) := of_decide_eq_true (by first | (with_reducible assumption) | assumption)
              have q355 : x11_2 < (l0_2.length : Int) := of_decide_eq_true (by first | (with_reducible assumption) | assumption)
              obtain ⟨ad355, e355, hx355_0, hx355_1, hx355_2⟩ := at_T46 (Kd.V_reads' HO_342002.out).2.2 x11_2 p355 q355
              (try rw [← Nbq72.out] at hx355_0)
              cases e355
              replace p355 := eq_true p355
              replace q355 := eq_true q355
              try go_wp2
              replace HO_342002 := am (Kd.V_drew HO_342002.out)
              replace HO_355002 := am (Kd.R_drew HO_355002.out)
              replace BK341 := am (blk_drew BK341.out)
              replace BK342 := am (blk_drew BK342.out)
              replace BK343 := am (blk_drew BK343.out)
              replace BK354 := am (blk_drew BK354.out)
              replace HB := am (below_drew1 HB.out)
              have p356 : 0 ≤ (x11_2 : Int) := of_decide_eq_true (by first | (with_reducible assumption) | assumption)
              have q356 : x11_2 < (l0_2.length : Int) := of_decide_eq_true (by first | (with_reducible assumption) | assumption)
              obtain ⟨ad356, e356, hx356_0, hx356_1, hx356_2⟩ := at_T46 (Kd.V_reads' HO_342002.out).2.2 x11_2 p356 q356
              (try rw [← Nbq72.out] at hx356_0)
              obtain rfl : ad355 = ad356 := (by injection e356)
              replace p356 := eq_true p356
              replace q356 := eq_true q356
              obtain ⟨Ao80, co80, eo80⟩ := Kd.R_slice HO_355002.out
              (first | subst eo80 | (injection eo80 with f1_ f2_ f3_; have f4_ := f1_.symm; have f5_ := f3_.symm; clear f1_ f2_ f3_; subst f4_; subst f5_))
              refine start_ (n := 8) (S := fun w' => w'.cell? ⟨gb354, 0, none⟩ = some (.int .u64 x355000_2) ∧ w'.cell? ⟨gb354, 1, none⟩ = some (.int .u64 x355001_2) ∧ w'.cell? ⟨gb354, 2, none⟩ = some (.slice Ao80 x355002_2.length co80) ∧ w'.cell? ⟨gb341, 0, none⟩ = some (.int .u64 a0_0) ∧ w'.cell? ⟨gb341, 1, none⟩ = some (.int .u64 a0_1) ∧ w'.cell? ⟨gb341, 2, none⟩ = some (.slice (some ad355) l0_2.length c0_2) ∧ w'.cell? (ad355.add ((x11_2).toNat * 3)) = some (.bool (true)) ∧ w'.cell? ⟨(ad355.add ((x11_2).toNat * 3)).block, (ad355.add ((x11_2).toNat * 3)).off + 1, none⟩ = some (.string ((rd_T46 l0_2 x11_2).f1)) ∧ w'.cell? ⟨(ad355.add ((x11_2).toNat * 3)).block, (ad355.add ((x11_2).toNat * 3)).off + 2, none⟩ = some (.int .i64 ((rd_T46 l0_2 x11_2).f2))) (ds := [7]) #[false, false, false, false, false, false, false, false] (by kernel_rfl) rfl rfl ⟨ce BK354 0, ce BK354 1, ce BK354 2, ce BK341 0, ce BK341 1, ce BK341 2, hx356_0, hx356_1, hx356_2⟩ (fun hHeld => ?_); refine with_tabW r12_Put.tab17 r12_Put.bits17 (fun HT_ HW_ => ?_)
              generalize wr.drew = w79 at HO_342002 HO_355002 BK341 BK342 BK343 BK354 HB hx356_0 hx356_1 hx356_2 hHeld ⊢
              refine pu 1 ?_
              refine pu 3 ?_
              refine ta 0 hHeld ?_
              refine ta 2 hHeld ?_
              refine pu 4 ?_
              refine ta 5 hHeld ?_
              refine on1 6 (fun K hK => ?_)
              refine gs Try.func35 #[.agg #[.int .u64 x355000_2, .int .u64 x355001_2, .slice Ao80 x355002_2.length co80], .agg #[.bool true, .string ((rd_T46 l0_2 x11_2).f1), .int .i64 ((rd_T46 l0_2 x11_2).f2)]] ?_
              with_reducible refine (r12_lay.calls k2 x355000_2 x355001_2 _ _ x355002_2 true ((rd_T46 l0_2 x11_2).f1) ((rd_T46 l0_2 x11_2).f2) t357 t358 t359 _ ?side1 ?side2 A74.out).mono ?_
              (case side1 => repeat (first | exact (Kd.R_reads' HO_355002.out).2.2 | (with_reducible refine Kd.C_alloc ?_ _) | (with_reducible refine Kd.C_drewN ?_ _) | (with_reducible refine Kd.C_drew ?_)))
              (case side2 => exact (Kd.R_reads' HO_355002.out).2.1)
              rintro e w81 ⟨v360, rfl, ho0, hb⟩
              have HS6_ := (hb.cell (World.block_lt_of_cell? _ _ (hHeld.2.2.2.2.2.2.1))).trans (hHeld.2.2.2.2.2.2.1)
              have HS7_ := (hb.cell (World.block_lt_of_cell? _ _ (hHeld.2.2.2.2.2.2.2.1))).trans (hHeld.2.2.2.2.2.2.2.1)
              have HS8_ := (hb.cell (World.block_lt_of_cell? _ _ (hHeld.2.2.2.2.2.2.2.2))).trans (hHeld.2.2.2.2.2.2.2.2)
              refine ⟨_, rfl, ?_⟩
              have n0_ := am (Kd.V_elder' (pv HO_342002.out) (Kd.R_base ho0) hb)
              have n1_ := am (Kd.R_elder' (pr HO_355002.out) (Kd.R_base ho0) hb)
              have n2_ := am (Kd.R_lower (Kd.R_newB (Kd.R_new' (Kd.R_newM (M := fun k_ => (w.heap.size ≤ k_)) ho0 (below_size (pb HB)) (fun k_ h_ => h_)) (Kd.R_lt (pr HO_355002.out))) (g := gb343) (o := .cells #[.bool true, .string a1, .int .i64 a2] 46 (0, 0)) (pk BK343.out)) (below_size (pb HB)))
              have n3_ := am (blk_below (pk BK341.out) hb)
              have n4_ := am (blk_below (pk BK342.out) hb)
              have n5_ := am (blk_below (pk BK343.out) hb)
              have n6_ := am (blk_below (pk BK354.out) hb)
              have n7_ := am (below_step (pb HB) hb)
              clear HO_342002 HO_355002 BK341 BK342 BK343 BK354 HB
              have HO_342002 := n0_
              have HO_355002 := n1_
              have HO361 := n2_
              have BK341 := n3_
              have BK342 := n4_
              have BK343 := n5_
              have BK354 := n6_
              have HB := n7_
              clear n0_ n1_ n2_ n3_ n4_ n5_ n6_ n7_
              (try clear hb)
              (try clear hb2)
              (try clear hk)
              (try clear hi)
              (try clear ho0)
              obtain ⟨Ao84, co84, eo84⟩ := Kd.R_slice HO361.out
              (first | subst eo84 | (injection eo84 with f1_ f2_ f3_; have f4_ := f1_.symm; have f5_ := f3_.symm; clear f1_ f2_ f3_; subst f4_; subst f5_))
              refine hK.out _ _ ⟨ce BK354 0, ce BK354 1, ce BK354 2, ce BK341 0, ce BK341 1, ce BK341 2, HS6_, HS7_, HS8_⟩ (fun hHeld => ?_)
              clear hK K
              refine nm ?_
              refine last_ (i := 7) (N := none) #[true, true, true, true, true, true, true, true] rfl rfl (one_of HT_.out (by kernel_rfl)) (by decide) (fun K hK => ?_)
              have hs82 : w81.cell? ⟨gb354, 0, none⟩ = some (.int .u64 x355000_2) := ce BK354 0
              have hfs82 := blk_frozen BK354.out 0
              have hns82_0 := NB341_354.out
              have hns82_1 := NB342_354.out
              have hns82_2 := NB343_354.out
              have hms82_0 := NB354_341.out
              have hms82_1 := NB354_342.out
              have hms82_2 := NB354_343.out
              have hs83 : w81.cell? ⟨gb354, 1, none⟩ = some (.int .u64 x355001_2) := ce BK354 1
              have hfs83 := blk_frozen BK354.out 1
              have hns83_0 := NB341_354.out
              have hns83_1 := NB342_354.out
              have hns83_2 := NB343_354.out
              have hms83_0 := NB354_341.out
              have hms83_1 := NB354_342.out
              have hms83_2 := NB354_343.out
              have hs85 : w81.cell? ⟨gb354, 2, none⟩ = some (.slice Ao80 x355002_2.length co80) := ce BK354 2
              have hfs85 := blk_frozen BK354.out 2
              have hns85_0 := NB341_354.out
              have hns85_1 := NB342_354.out
              have hns85_2 := NB343_354.out
              have hms85_0 := NB354_341.out
              have hms85_1 := NB354_342.out
              have hms85_2 := NB354_343.out
              refine skip_ (w1 := ?_) (by rfl) rfl ?_ ?_
              rotate_left
              ·go_simp
               rfl
              refine hK.out _ _ ?_
              clear hK K
              refine done_ (done_of HT_.out (by kernel_rfl)) ?_
              try go_wp2
              go_roundg k2
              case measure => have := HJ9.out; have := HK2.out; omega
              case rel => exact ⟨(wrap64 (x11_2 + 1)), (t357), (t358), (t359), (.slice Ao84 t359.length co84), (by first | rfl | (simp; done) | (simp [*]; done)), H', ⟨by have := HJ9.out; have := HK2.out; omega⟩, ⟨by refine pv ?_; exact Kd.V_mono (Kd.V_far (p := ⟨gb354, 2, none⟩) (Kd.V_far (p := ⟨gb354, 1, none⟩) (Kd.V_far (p := ⟨gb354, 0, none⟩) (Kd.V_mono HO_342002.out (fun k_ hk => (⟨hk, hk.1.2.2.2.2.2⟩ : _ ∧ k_ ≠ gb354))) (fun _ hk => hk.2) (.int .u64 t357)) (fun _ hk => hk.2) (.int .u64 t358)) (fun _ hk => hk.2) (.slice Ao84 t359.length co84)) (fun _ hk => ⟨hk.1.1.1, ⟨hk.1.2, ⟨hk.1.1.2.2.1, ⟨hk.1.1.2.2.2.1, ⟨hk.1.1.2.2.2.2.1, hk.1.1.2.2.2.2.2⟩⟩⟩⟩⟩)⟩, ⟨by refine pr ?_; exact Kd.R_mono (Kd.R_far (p := ⟨gb354, 2, none⟩) (Kd.R_far (p := ⟨gb354, 1, none⟩) (Kd.R_far (p := ⟨gb354, 0, none⟩) (Kd.R_types HO361.out BK354.out (by decide)) (fun _ hk => hk.2) (.int .u64 t357)) (fun _ hk => hk.2) (.int .u64 t358)) (fun _ hk => hk.2) (.slice Ao84 t359.length co84)) (fun _ hk => ⟨hk.1.1.1.1, hk.1.2⟩)⟩, ⟨by refine pk ?_; refine blk_far ?_ NB341_354.out _; refine pk ?_; refine blk_far ?_ NB341_354.out _; refine pk ?_; refine blk_far ?_ NB341_354.out _; refine pk ?_; exact BK341.out⟩, ⟨by refine pk ?_; refine blk_far ?_ NB342_354.out _; refine pk ?_; refine blk_far ?_ NB342_354.out _; refine pk ?_; refine blk_far ?_ NB342_354.out _; refine pk ?_; exact BK342.out⟩, ⟨by refine pk ?_; refine blk_far ?_ NB343_354.out _; refine pk ?_; refine blk_far ?_ NB343_354.out _; refine pk ?_; refine blk_far ?_ NB343_354.out _; refine pk ?_; exact BK343.out⟩, ⟨by refine pk ?_; refine blk_put (cs := #[.int .u64 t357, .int .u64 t358, .slice Ao80 x355002_2.length co80]) ?_ 2 _ rfl; refine pk ?_; refine blk_put (cs := #[.int .u64 t357, .int .u64 x355001_2, .slice Ao80 x355002_2.length co80]) ?_ 1 _ rfl; refine pk ?_; refine blk_put (cs := #[.int .u64 x355000_2, .int .u64 x355001_2, .slice Ao80 x355002_2.length co80]) ?_ 0 _ rfl; refine pk ?_; exact BK354.out⟩, ⟨pb HB⟩⟩
             ·replace c73 := Bool.eq_false_iff.mpr c73
              subst c73
              have H1 : (r12_Put.l0 k2 (wrap64 (x11_2 + 1)) a0_0 a0_1 l0_2 true a1 a2 x355000_2 x355001_2 x355002_2) = some (r1, r2, r3, r4) := by rw [if_neg (show ¬ (false = true) by decide)] at H; exact H
              clear H
              have H := H1
              clear H1
              have H' := am H
              clear H
              have hnb86 := NB341_342.out
              have hnc86 := NB342_341.out
              have hnb87 := NB341_343.out
              have hnc87 := NB343_341.out
              have hnb88 := NB341_354.out
              have hnc88 := NB354_341.out
              have hcz89_0 := ce BK341 0
              have hcz89_1 := ce BK341 1
              have hcz89_2 := ce BK341 2
              have hfz89_0 := fz BK341 0
              have hfz89_1 := fz BK341 1
              have hfz89_2 := fz BK341 2
              have p355 : 0 ≤ (x11_2 : Int) := of_decide_eq_true (by first | (with_reducible assumption) | assumption)
              have q355 : x11_2 < (l0_2.length : Int) := of_decide_eq_true (by first | (with_reducible assumption) | assumption)
              obtain ⟨ad355, e355, hx355_0, hx355_1, hx355_2⟩ := at_T46 (Kd.V_reads' HO_342002.out).2.2 x11_2 p355 q355
              (try rw [← Nbq72.out] at hx355_0)
              cases e355
              replace p355 := eq_true p355
              replace q355 := eq_true q355
              go_wp2
              go_roundg k2
              case measure => have := HJ9.out; have := HK2.out; omega
              case rel => exact ⟨(wrap64 (x11_2 + 1)), (x355000_2), (x355001_2), (x355002_2), (u355002), (by first | rfl | (simp; done) | (simp [*]; done)), H', ⟨by have := HJ9.out; have := HK2.out; omega⟩, ⟨pv HO_342002.out⟩, ⟨pr HO_355002.out⟩, ⟨pk BK341.out⟩, ⟨pk BK342.out⟩, ⟨pk BK343.out⟩, ⟨pk BK354.out⟩, ⟨pb HB⟩⟩
            ·rw [if_neg c71] at H
             exact absurd H (by simp)
           ·rw [if_neg c70] at H
            have c70b0 : decide (x11_2 < (l0_2.length : Int)) = false := decide_eq_false c70
            clear c70
            replace H := Option.bind_eq_some_iff.mp H
            obtain ⟨⟨t362, t363, t364⟩, A900, H⟩ := H
            replace H : (some (t362, t363, t364, 0)) = some (r1, r2, r3, r4) := H
            have A90 := am A900
            clear A900
            simp only [Option.some.injEq, Prod.mk.injEq] at H
            obtain ⟨rfl, rfl, rfl, rfl⟩ := H
            have hnb91 := NB341_342.out
            have hnc91 := NB342_341.out
            have hnb92 := NB341_343.out
            have hnc92 := NB343_341.out
            have hnb93 := NB341_354.out
            have hnc93 := NB354_341.out
            have hcz94_0 := ce BK341 0
            have hcz94_1 := ce BK341 1
            have hcz94_2 := ce BK341 2
            have hfz94_0 := fz BK341 0
            have hfz94_1 := fz BK341 1
            have hfz94_2 := fz BK341 2
            have hnb95 := NB354_342.out
            have hnc95 := NB342_354.out
            have hnb96 := NB354_343.out
            have hnc96 := NB343_354.out
            have hcz97_0 := ce BK354 0
            have hcz97_1 := ce BK354 1
            have hcz97_2 := ce BK354 2
            have hfz97_0 := fz BK354 0
            have hfz97_1 := fz BK354 1
            have hfz97_2 := fz BK354 2
            obtain ⟨Ao98, co98, eo98⟩ := Kd.R_slice HO_355002.out
            subst eo98
            have hnb99 := NB343_342.out
            have hnc99 := NB342_343.out
            have hcz100_0 := ce BK343 0
            have hcz100_1 := ce BK343 1
            have hcz100_2 := ce BK343 2
            have hfz100_0 := fz BK343 0
            have hfz100_1 := fz BK343 1
            have hfz100_2 := fz BK343 2
            go_wp2_with (first | ((with_reducible refine gate_callee (f := 35) rfl ?_); refine gl (some 79) Try.func35 #[.agg #[.int .u64 x355000_2, .int .u64 x355001_2, .slice Ao98 x355002_2.length co98], .agg #[.bool true, .string a1, .int .i64 a2]] ?_; (with_reducible refine (r12_lay.calls k2 x355000_2 x355001_2 _ _ x355002_2 true a1 a2 t362 t363 t364 _ ?side1 ?side2 A90.out).mono ?_); (case side1 => refine (Kd.R_reads' (e := 46) (base := w.heap.size) (ok := fun k_ => ((w.heap.size ≤ k_) ∧ k_ ≠ gb343)) (n := x355002_2.length) (c := co98) ?_).2.2; exact (pr ((Kd.R_mono (Kd.R_far (p := ⟨gb341, 2, none⟩) (Kd.R_far (p := ⟨gb341, 1, none⟩) (Kd.R_far (p := ⟨gb341, 0, none⟩) (Kd.R_types HO_355002.out BK341.out (by decide)) (fun _ hk => hk.2) (.int .u64 x355000_2)) (fun _ hk => hk.2) (.int .u64 x355001_2)) (fun _ hk => hk.2) (.slice Ao98 x355002_2.length co98)) (fun _ h_ => h_.1))))); (case side2 => exact (Kd.R_reads' HO_355002.out).2.1); rintro e w101 ⟨v365, rfl, ho0, hb⟩; refine ⟨_, rfl, ?_⟩; have n0_ := am (Kd.V_elder' (pv ((Kd.V_mono (Kd.V_far (p := ⟨gb341, 2, none⟩) (Kd.V_far (p := ⟨gb341, 1, none⟩) (Kd.V_far (p := ⟨gb341, 0, none⟩) (Kd.V_mono HO_342002.out (fun k_ hk => (⟨hk, hk.2.2.1⟩ : _ ∧ k_ ≠ gb341))) (fun _ hk => hk.2) (.int .u64 x355000_2)) (fun _ hk => hk.2) (.int .u64 x355001_2)) (fun _ hk => hk.2) (.slice Ao98 x355002_2.length co98)) (fun _ h_ => h_.1)))) (Kd.R_base ho0) hb); have n1_ := am (Kd.R_elder' (pr ((Kd.R_mono (Kd.R_far (p := ⟨gb341, 2, none⟩) (Kd.R_far (p := ⟨gb341, 1, none⟩) (Kd.R_far (p := ⟨gb341, 0, none⟩) (Kd.R_types HO_355002.out BK341.out (by decide)) (fun _ hk => hk.2) (.int .u64 x355000_2)) (fun _ hk => hk.2) (.int .u64 x355001_2)) (fun _ hk => hk.2) (.slice Ao98 x355002_2.length co98)) (fun _ h_ => h_.1)))) (Kd.R_base ho0) hb); have n2_ := am (Kd.R_lower (Kd.R_newB (Kd.R_new' (Kd.R_newM (M := fun k_ => (w.heap.size ≤ k_)) ho0 (below_size (pb HB)) (fun k_ h_ => h_)) (Kd.R_lt (pr ((Kd.R_mono (Kd.R_far (p := ⟨gb341, 2, none⟩) (Kd.R_far (p := ⟨gb341, 1, none⟩) (Kd.R_far (p := ⟨gb341, 0, none⟩) (Kd.R_types HO_355002.out BK341.out (by decide)) (fun _ hk => hk.2) (.int .u64 x355000_2)) (fun _ hk => hk.2) (.int .u64 x355001_2)) (fun _ hk => hk.2) (.slice Ao98 x355002_2.length co98)) (fun _ h_ => h_.1)))))) (g := gb343) (o := .cells #[.bool true, .string a1, .int .i64 a2] 46 (0, 0)) (by refine pk ?_; refine blk_far ?_ NB343_341.out _; refine pk ?_; refine blk_far ?_ NB343_341.out _; refine pk ?_; refine blk_far ?_ NB343_341.out _; refine pk ?_; exact BK343.out)) (below_size (pb HB))); have n3_ := am (blk_below (g := gb341) (o := .cells #[.int .u64 x355000_2, .int .u64 x355001_2, .slice Ao98 x355002_2.length co98] 30 (0, 0)) (by refine pk ?_; refine blk_put (cs := #[.int .u64 x355000_2, .int .u64 x355001_2, .slice A0_2 l0_2.length c0_2]) ?_ 2 _ rfl; refine pk ?_; refine blk_put (cs := #[.int .u64 x355000_2, .int .u64 a0_1, .slice A0_2 l0_2.length c0_2]) ?_ 1 _ rfl; refine pk ?_; refine blk_put (cs := #[.int .u64 a0_0, .int .u64 a0_1, .slice A0_2 l0_2.length c0_2]) ?_ 0 _ rfl; refine pk ?_; exact BK341.out) hb); have n4_ := am (blk_below (g := gb342) (o := .cells #[.int .u64 0, .int .u64 0, .slice none 0 0] 30 (0, 0)) (by refine pk ?_; refine blk_far ?_ NB342_341.out _; refine pk ?_; refine blk_far ?_ NB342_341.out _; refine pk ?_; refine blk_far ?_ NB342_341.out _; refine pk ?_; exact BK342.out) hb); have n5_ := am (blk_below (g := gb343) (o := .cells #[.bool true, .string a1, .int .i64 a2] 46 (0, 0)) (by refine pk ?_; refine blk_far ?_ NB343_341.out _; refine pk ?_; refine blk_far ?_ NB343_341.out _; refine pk ?_; refine blk_far ?_ NB343_341.out _; refine pk ?_; exact BK343.out) hb); have n6_ := am (blk_below (g := gb354) (o := .cells #[.int .u64 x355000_2, .int .u64 x355001_2, .slice Ao98 x355002_2.length co98] 30 (0, 0)) (by refine pk ?_; refine blk_far ?_ NB354_341.out _; refine pk ?_; refine blk_far ?_ NB354_341.out _; refine pk ?_; refine blk_far ?_ NB354_341.out _; refine pk ?_; exact BK354.out) hb); have n7_ := am (below_step (pb HB) hb); clear HO_342002; clear HO_355002; clear BK341; clear BK342; clear BK343; clear BK354; clear HB; have HO_342002 := n0_; have HO_355002 := n1_; have HO366 := n2_; have BK341 := n3_; have BK342 := n4_; have BK343 := n5_; have BK354 := n6_; have HB := n7_; clear n0_ n1_ n2_ n3_ n4_ n5_ n6_ n7_; (try clear hb); (try clear hb2); (try clear hk); (try clear hi); (try clear ho0); have hcz102_0 := ce BK342 0; have hcz102_1 := ce BK342 1; have hcz102_2 := ce BK342 2; have hfz102_0 := fz BK342 0; have hfz102_1 := fz BK342 1; have hfz102_2 := fz BK342 2; obtain ⟨Ao103, co103, eo103⟩ := Kd.R_slice HO366.out; subst eo103))
            refine bodyPost_ret (results_ct rfl _ _ gb342 30 #[.int .u64 t362, .int .u64 t363, .slice Ao103 t364.length co103] (0, 0) _ rfl (by refine pk ?_; refine blk_put (cs := #[.int .u64 t362, .int .u64 t363, .slice none 0 0]) ?_ 2 _ rfl; refine pk ?_; refine blk_put (cs := #[.int .u64 t362, .int .u64 0, .slice none 0 0]) ?_ 1 _ rfl; refine pk ?_; refine blk_put (cs := #[.int .u64 0, .int .u64 0, .slice none 0 0]) ?_ 0 _ rfl; refine pk ?_; exact BK342.out) Try.underlying30 rfl (by kernel_rfl)) rfl ?_
            exact ⟨_, by first | rfl | (simp [errW_none, errW_some] <;> rfl) | (simp only [← hji47]; first | rfl | (simp [errW_none, errW_some] <;> rfl)) | (simp [*, errW_none, errW_some] <;> rfl), Kd.V_mono (Kd.R_V (pr (Kd.R_mono (Kd.R_far (p := ⟨gb342, 2, none⟩) (Kd.R_far (p := ⟨gb342, 1, none⟩) (Kd.R_far (p := ⟨gb342, 0, none⟩) (Kd.R_types HO366.out BK342.out (by decide)) (fun _ hk => hk.2) (.int .u64 t362)) (fun _ hk => hk.2) (.int .u64 t363)) (fun _ hk => hk.2) (.slice Ao103 t364.length co103)) (fun _ hk => hk.1.1.1.1)))) (fun k_ hk => by first | exact ⟨(.inr (hk.1)), hk.2⟩ | exact (.inr (hk))), pb HB⟩
        ·rw [if_neg c49] at H
         exact absurd H (by simp)
       ·rw [if_neg c48] at H
        exact absurd H (by simp)
     ·rw [if_neg c34] at H
      have c34b0 : decide ((wrap64 ((l0_2.length : Int) / 2)) < (wrap64 (t350 + 1))) = false := decide_eq_false c34
      clear c34
      replace H := Option.bind_eq_some_iff.mp H
      obtain ⟨⟨t367, t368, t369⟩, A1040, H⟩ := H
      replace H : (some (t367, t368, t369, 0)) = some (r1, r2, r3, r4) := H
      have A104 := am A1040
      clear A1040
      simp only [Option.some.injEq, Prod.mk.injEq] at H
      obtain ⟨rfl, rfl, rfl, rfl⟩ := H
      try go_wp2_with (first | ((with_reducible refine gate_dst (N := 8) rfl ?_); refine be 8 #[.bool false, .string (⟨#[]⟩ : ByteArray), .int .i64 0] 46 ?_; intro gb343 hg w105 hbox hb; have n0_ := am (Kd.V_below (Kd.V_elderB (pv HO_342002.out) gb343 (Nat.le_of_eq hg.symm)) hb); have n1_ := am (blk_below (pk BK341.out) hb); have n2_ := am (blk_below (pk BK342.out) hb); have n3_ := am (below_step (pb HB) hb); have n4_ := am (hbox); have n5_ := am ((pg hg HB : w.heap.size ≤ gb343)); have n6_ := am ((pg hg HB : w.heap.size ≤ gb343)); have n7_ := am ((pl hg (pk BK341.out) : gb341 ≠ gb343)); have n8_ := am ((pl' hg (pk BK341.out) : gb343 ≠ gb341)); have n9_ := am ((pl hg (pk BK342.out) : gb342 ≠ gb343)); have n10_ := am ((pl' hg (pk BK342.out) : gb343 ≠ gb342)); clear HO_342002; clear BK341; clear BK342; clear HB; have HO_342002 := n0_; have BK341 := n1_; have BK342 := n2_; have HB := n3_; have BK343 := n4_; have GW343 := n5_; have GE343 := n6_; have NB341_343 := n7_; have NB343_341 := n8_; have NB342_343 := n9_; have NB343_342 := n10_; clear n0_ n1_ n2_ n3_ n4_ n5_ n6_ n7_ n8_ n9_ n10_; clear hb hbox hg; have hnb106 := NB343_341.out; have hnc106 := NB341_343.out; have hnb107 := NB343_342.out; have hnc107 := NB342_343.out; have hcz108_0 := ce BK343 0; have hcz108_1 := ce BK343 1; have hcz108_2 := ce BK343 2; have hfz108_0 := fz BK343 0; have hfz108_1 := fz BK343 1; have hfz108_2 := fz BK343 2; have hnb109 := NB341_342.out; have hnc109 := NB342_341.out; have hcz110_0 := ce BK341 0; have hcz110_1 := ce BK341 1; have hcz110_2 := ce BK341 2; have hfz110_0 := fz BK341 0; have hfz110_1 := fz BK341 1; have hfz110_2 := fz BK341 2) | ((with_reducible refine gate_callee (f := 18) rfl ?_); refine gl (some 28) Try.func18 #[.agg #[.int .u64 a0_0, .int .u64 a0_1, .slice A0_2 l0_2.length c0_2], .string a1] ?_; (with_reducible refine (r12_Find.calls kj9 a0_0 a0_1 _ _ l0_2 a1 t344 _ ?side1 ?side2 A18.out).mono ?_); (case side1 => refine (Kd.V_reads' (e := 46) (base := w.heap.size) (ok := fun k_ => (((P0_2_ k_ ∨ w.heap.size ≤ k_) ∧ (k_ ≠ gb341 ∧ k_ ≠ gb342)) ∧ k_ ≠ gb343)) (n := l0_2.length) (c := c0_2) ?_).2.2; exact (pv ((Kd.V_mono (Kd.V_far (p := ⟨gb343, 2, none⟩) (Kd.V_far (p := ⟨gb343, 1, none⟩) (Kd.V_far (p := ⟨gb343, 0, none⟩) (Kd.V_mono HO_342002.out (fun k_ hk => (⟨hk, hk.2⟩ : _ ∧ k_ ≠ gb343))) (fun _ hk => hk.2) (.bool true)) (fun _ hk => hk.2) (.string a1)) (fun _ hk => hk.2) (.int .i64 a2)) (fun _ h_ => h_.1))))); (case side2 => exact (Kd.V_reads' HO_342002.out).2.1); rintro e w111 ⟨rfl, hb⟩; refine ⟨_, rfl, ?_⟩; replace HO_342002 := am (Kd.V_below (pv ((Kd.V_mono (Kd.V_far (p := ⟨gb343, 2, none⟩) (Kd.V_far (p := ⟨gb343, 1, none⟩) (Kd.V_far (p := ⟨gb343, 0, none⟩) (Kd.V_mono HO_342002.out (fun k_ hk => (⟨hk, hk.2⟩ : _ ∧ k_ ≠ gb343))) (fun _ hk => hk.2) (.bool true)) (fun _ hk => hk.2) (.string a1)) (fun _ hk => hk.2) (.int .i64 a2)) (fun _ h_ => h_.1)))) hb); replace BK341 := am (blk_below (g := gb341) (o := .cells #[.int .u64 a0_0, .int .u64 a0_1, .slice A0_2 l0_2.length c0_2] 30 (0, 0)) (by refine pk ?_; refine blk_far ?_ NB341_343.out _; refine pk ?_; refine blk_far ?_ NB341_343.out _; refine pk ?_; refine blk_far ?_ NB341_343.out _; refine pk ?_; exact BK341.out) hb); replace BK342 := am (blk_below (g := gb342) (o := .cells #[.int .u64 0, .int .u64 0, .slice none 0 0] 30 (0, 0)) (by refine pk ?_; refine blk_far ?_ NB342_343.out _; refine pk ?_; refine blk_far ?_ NB342_343.out _; refine pk ?_; refine blk_far ?_ NB342_343.out _; refine pk ?_; exact BK342.out) hb); replace BK343 := am (blk_below (g := gb343) (o := .cells #[.bool true, .string a1, .int .i64 a2] 46 (0, 0)) (by refine pk ?_; refine blk_put (cs := #[.bool true, .string a1, .int .i64 0]) ?_ 2 _ rfl; refine pk ?_; refine blk_put (cs := #[.bool true, .string (⟨#[]⟩ : ByteArray), .int .i64 0]) ?_ 1 _ rfl; refine pk ?_; refine blk_put (cs := #[.bool false, .string (⟨#[]⟩ : ByteArray), .int .i64 0]) ?_ 0 _ rfl; refine pk ?_; exact BK343.out) hb); replace HB := am (below_step (pb HB) hb); (try clear hb); (try clear hb2); (try clear hk); (try clear hi)))
      replace HO_342002 := am (Kd.V_drew HO_342002.out)
      replace BK341 := am (blk_drew BK341.out)
      replace BK342 := am (blk_drew BK342.out)
      replace BK343 := am (blk_drew BK343.out)
      replace HB := am (below_drew1 HB.out)
      refine start_ (n := 8) (S := fun w' => w'.cell? ⟨gb341, 0, none⟩ = some (.int .u64 a0_0) ∧ w'.cell? ⟨gb341, 1, none⟩ = some (.int .u64 a0_1) ∧ w'.cell? ⟨gb341, 2, none⟩ = some (.slice A0_2 l0_2.length c0_2)) (ds := []) #[false, false, false, false, false, false, false, false] (by kernel_rfl) rfl rfl ⟨ce BK341 0, ce BK341 1, ce BK341 2⟩ (fun hHeld => ?_); refine with_tabW r12_Put.tab9 r12_Put.bits9 (fun HT_ HW_ => ?_)
      generalize w111.drew = w112 at HO_342002 BK341 BK342 BK343 HB hHeld ⊢
      refine pu 3 ?_
      refine ta 0 hHeld ?_
      refine ta 4 hHeld ?_
      refine pu 5 ?_
      refine pu 6 ?_
      refine on1 1 (fun K hK => ?_)
      refine gs Try.func19 #[.agg #[.int .u64 a0_0, .int .u64 a0_1, .slice A0_2 l0_2.length c0_2]] ?_
      with_reducible refine (r12_Many.calls kj9 a0_0 a0_1 _ _ l0_2 t350 _ ?side1 ?side2 A33.out).mono ?_
      (case side1 => repeat (first | exact (Kd.V_reads' HO_342002.out).2.2 | (with_reducible refine Kd.C_alloc ?_ _) | (with_reducible refine Kd.C_drewN ?_ _) | (with_reducible refine Kd.C_drew ?_)))
      (case side2 => exact (Kd.V_reads' HO_342002.out).2.1)
      rintro e w113 ⟨rfl, hb⟩
      refine ⟨_, rfl, ?_⟩
      replace HO_342002 := am (Kd.V_below (pv HO_342002.out) hb)
      replace BK341 := am (blk_below (pk BK341.out) hb)
      replace BK342 := am (blk_below (pk BK342.out) hb)
      replace BK343 := am (blk_below (pk BK343.out) hb)
      replace HB := am (below_step (pb HB) hb)
      (try clear hb)
      (try clear hb2)
      (try clear hk)
      (try clear hi)
      refine hK.out _ _ ⟨ce BK341 0, ce BK341 1, ce BK341 2⟩ (fun hHeld => ?_)
      clear hK K
      refine nm ?_
      refine pu 2 ?_
      refine pu 7 ?_
      refine done_ (done_of HT_.out (by kernel_rfl)) ?_
      have hcz114_0 := ce BK341 0
      have hcz114_1 := ce BK341 1
      have hcz114_2 := ce BK341 2
      have hfz114_0 := fz BK341 0
      have hfz114_1 := fz BK341 1
      have hfz114_2 := fz BK341 2
      have hcz115_0 := ce BK343 0
      have hcz115_1 := ce BK343 1
      have hcz115_2 := ce BK343 2
      have hfz115_0 := fz BK343 0
      have hfz115_1 := fz BK343 1
      have hfz115_2 := fz BK343 2
      try go_wp2_with (first | ((with_reducible refine gate_callee (f := 35) rfl ?_); refine gl (some 79) Try.func35 #[.agg #[.int .u64 a0_0, .int .u64 a0_1, .slice A0_2 l0_2.length c0_2], .agg #[.bool true, .string a1, .int .i64 a2]] ?_; (with_reducible refine (r12_lay.calls kj9 a0_0 a0_1 _ _ l0_2 true a1 a2 t367 t368 t369 _ ?side1 ?side2 A104.out).mono ?_); (case side1 => repeat (first | exact (Kd.V_reads' HO_342002.out).2.2 | (with_reducible refine Kd.C_alloc ?_ _) | (with_reducible refine Kd.C_drewN ?_ _) | (with_reducible refine Kd.C_drew ?_))); (case side2 => exact (Kd.V_reads' HO_342002.out).2.1); rintro e w116 ⟨v370, rfl, ho0, hb⟩; refine ⟨_, rfl, ?_⟩; replace HO_342002 := am (Kd.V_elder' (pv HO_342002.out) (Kd.R_base ho0) hb); have HO371 := am (Kd.R_lower (Kd.R_newB (Kd.R_newM (M := fun k_ => (w.heap.size ≤ k_)) ho0 (below_size (pb HB)) (fun k_ h_ => h_)) (g := gb343) (o := .cells #[.bool true, .string a1, .int .i64 a2] 46 (0, 0)) (pk BK343.out)) (below_size (pb HB))); replace BK341 := am (blk_below (pk BK341.out) hb); replace BK342 := am (blk_below (pk BK342.out) hb); replace BK343 := am (blk_below (pk BK343.out) hb); replace HB := am (below_step (pb HB) hb); (try clear hb); (try clear hb2); (try clear hk); (try clear hi); (try clear ho0); have hcz117_0 := ce BK342 0; have hcz117_1 := ce BK342 1; have hcz117_2 := ce BK342 2; have hfz117_0 := fz BK342 0; have hfz117_1 := fz BK342 1; have hfz117_2 := fz BK342 2; obtain ⟨Ao118, co118, eo118⟩ := Kd.R_slice HO371.out; subst eo118))
      refine bodyPost_ret (results_ct rfl _ _ gb342 30 #[.int .u64 t367, .int .u64 t368, .slice Ao118 t369.length co118] (0, 0) _ rfl (by refine pk ?_; refine blk_put (cs := #[.int .u64 t367, .int .u64 t368, .slice none 0 0]) ?_ 2 _ rfl; refine pk ?_; refine blk_put (cs := #[.int .u64 t367, .int .u64 0, .slice none 0 0]) ?_ 1 _ rfl; refine pk ?_; refine blk_put (cs := #[.int .u64 0, .int .u64 0, .slice none 0 0]) ?_ 0 _ rfl; refine pk ?_; exact BK342.out) Try.underlying30 rfl (by kernel_rfl)) rfl ?_
      exact ⟨_, by first | rfl | (simp [errW_none, errW_some] <;> rfl) | (simp [*, errW_none, errW_some] <;> rfl), Kd.V_mono (Kd.R_V (pr (Kd.R_mono (Kd.R_far (p := ⟨gb342, 2, none⟩) (Kd.R_far (p := ⟨gb342, 1, none⟩) (Kd.R_far (p := ⟨gb342, 0, none⟩) (Kd.R_types HO371.out BK342.out (by decide)) (fun _ hk => hk.2) (.int .u64 t367)) (fun _ hk => hk.2) (.int .u64 t368)) (fun _ hk => hk.2) (.slice Ao118 t369.length co118)) (fun _ hk => hk.1.1.1)))) (fun k_ hk => by first | exact ⟨(.inr (hk.1)), hk.2⟩ | exact (.inr (hk))), pb HB⟩
end Go.Proofs.Ytojpmjkphgjmgaa.H
