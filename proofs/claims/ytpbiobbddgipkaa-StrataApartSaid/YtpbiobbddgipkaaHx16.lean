import Derived.Test.YtpbiobbddgipkaaHx0
import Derived.Test.YtpbiobbddgipkaaHx1
import Derived.Test.YtpbiobbddgipkaaHx6
import Derived.Test.YtpbiobbddgipkaaHx8
import Derived.Test.YtpbiobbddgipkaaHx15
namespace Go.Proofs.Ytpbiobbddgipkaa.H
open Go.RowKit Go.Proofs.YtpbiobbddgipkaaW.PrintWords Go.Proofs.YtpbiobbddgipkaaW.PrintLast Go.Proofs.YtpbiobbddgipkaaW.PrintMore Go.Proofs.YtpbiobbddgipkaaW.Sq
attribute [local go_sem] max2_int min2_int max_two min_two max_three min_three max_four min_four
set_option linter.unusedVariables false
set_option linter.unusedSimpArgs false

attribute [local go_sem high] eqA24
mutual
def bottom_Merge.j0 : Nat → Bool → Int → Int → Int → List (S87) → Int → Int → Int → List (S87) → Option (Int × Int × Int × (List (S87)) × Int)
 | 0, _, _, _, _, _, _, _, _, _ => none
 | k + 1, x8, x268000, x268001, x268002, x268003, x269000, x269001, x269002, x269003 => if x8 = true then (some (0, 0, 0, ([] : List (S87)), 1)) else (if (!(x268000 == x269000) || (!(x268001 == x269001))) = true then (some (0, 0, 0, ([] : List (S87)), 9)) else (if x268002 = x269002 then ((bottom_wraps.f k x268000 x268001 x268002 x268003 x269000 x269001 x269002 x269003).bind fun t272 => (if t272 = true then (some (0, 0, 0, ([] : List (S87)), 12)) else (bottom_Merge.l0 k x269003 (x269003.length : Int) 0 x268000 x268001 x268002 x268003))) else (some (0, 0, 0, ([] : List (S87)), 10))))
def bottom_Merge.l0 : Nat → List (S87) → Int → Int → Int → Int → Int → List (S87) → Option (Int × Int × Int × (List (S87)) × Int)
 | 0, _, _, _, _, _, _, _ => none
 | k + 1, x38, x39, x40, x268000, x268001, x268002, x268003 => if x40 < x39 then (if 0 ≤ x40 then (if x40 < (x38.length : Int) then ((bottom_add.f k x268000 x268001 x268002 x268003 ((rd_T87 x38 x40).f0) ((rd_T87 x38 x40).f1) ((rd_T87 x38 x40).f2.f0) ((rd_T87 x38 x40).f2.f1)).bind fun bt275 => (bottom_Merge.l0 k x38 x39 (wrap64 (x40 + 1)) bt275.1 bt275.2.1 bt275.2.2.1 bt275.2.2.2.1)) else (none)) else (none)) else (some (x268000, x268001, x268002, x268003, 0))
end
def bottom_Merge.f (k : Nat) (a0_0 : Int) (a0_1 : Int) (a0_2 : Int) (l0_3 : List (S87)) (a1_0 : Int) (a1_1 : Int) (a1_2 : Int) (l1_3 : List (S87)) : Option (Int × Int × Int × (List (S87)) × Int) := (bottom_Right.f k a0_0 a0_1 a0_2 l0_3).bind fun t270 => (if t270 = true then ((bottom_Right.f k a1_0 a1_1 a1_2 l1_3).bind fun t271 => (bottom_Merge.j0 k (!t271) a0_0 a0_1 a0_2 l0_3 a1_0 a1_1 a1_2 l1_3)) else (bottom_Merge.j0 k true a0_0 a0_1 a0_2 l0_3 a1_0 a1_1 a1_2 l1_3))
theorem bottom_Merge.mono_l : ∀ k, (∀ y0 y1 y2 y3 y4 y5 y6 y7 y8, LeO (bottom_Merge.j0 k y0 y1 y2 y3 y4 y5 y6 y7 y8) (bottom_Merge.j0 (k + 1) y0 y1 y2 y3 y4 y5 y6 y7 y8)) ∧ (∀ y0 y1 y2 y3 y4 y5 y6, LeO (bottom_Merge.l0 k y0 y1 y2 y3 y4 y5 y6) (bottom_Merge.l0 (k + 1) y0 y1 y2 y3 y4 y5 y6))
 | 0 => ⟨fun _ _ _ _ _ _ _ _ _ r h => by simp [bottom_Merge.j0] at h, fun _ _ _ _ _ _ _ r h => by simp [bottom_Merge.l0] at h⟩
 | k + 1 => by
  obtain ⟨ih0, ih1⟩ := bottom_Merge.mono_l k
  refine ⟨?_, ?_⟩
  ·intro y0 y1 y2 y3 y4 y5 y6 y7 y8
   unfold bottom_Merge.j0
   repeat' first
   | (with_reducible exact ih0 _ _ _ _ _ _ _ _ _)
   | (with_reducible exact ih1 _ _ _ _ _ _ _)
   | (with_reducible exact bottom_Right.mono _ _ _ _ _)
   | (with_reducible exact bottom_add.mono _ _ _ _ _ _ _ _ _)
   | (with_reducible exact bottom_wraps.mono _ _ _ _ _ _ _ _ _)
   | (with_reducible exact LeO.refl _)
   | (with_reducible exact LeO.none _)
   | (with_reducible refine LeO.ite ?_ ?_)
   | (with_reducible refine LeO.bind ?_ (fun _ => ?_))
  ·intro y0 y1 y2 y3 y4 y5 y6
   unfold bottom_Merge.l0
   repeat' first
   | (with_reducible exact ih0 _ _ _ _ _ _ _ _ _)
   | (with_reducible exact ih1 _ _ _ _ _ _ _)
   | (with_reducible exact bottom_Right.mono _ _ _ _ _)
   | (with_reducible exact bottom_add.mono _ _ _ _ _ _ _ _ _)
   | (with_reducible exact bottom_wraps.mono _ _ _ _ _ _ _ _ _)
   | (with_reducible exact LeO.refl _)
   | (with_reducible exact LeO.none _)
   | (with_reducible refine LeO.ite ?_ ?_)
   | (with_reducible refine LeO.bind ?_ (fun _ => ?_))
theorem bottom_Merge.mono : ∀ a0 a1 a2 a3 a4 a5 a6 a7 k, LeO (bottom_Merge.f k a0 a1 a2 a3 a4 a5 a6 a7) (bottom_Merge.f (k + 1) a0 a1 a2 a3 a4 a5 a6 a7) := by
 intro a0 a1 a2 a3 a4 a5 a6 a7 k
 obtain ⟨ih0, ih1⟩ := bottom_Merge.mono_l k
 unfold bottom_Merge.f
 repeat' first
   | (with_reducible exact ih0 _ _ _ _ _ _ _ _ _)
   | (with_reducible exact ih1 _ _ _ _ _ _ _)
   | (with_reducible exact bottom_Right.mono _ _ _ _ _)
   | (with_reducible exact bottom_add.mono _ _ _ _ _ _ _ _ _)
   | (with_reducible exact bottom_wraps.mono _ _ _ _ _ _ _ _ _)
   | (with_reducible exact LeO.refl _)
   | (with_reducible exact LeO.none _)
   | (with_reducible refine LeO.ite ?_ ?_)
   | (with_reducible refine LeO.bind ?_ (fun _ => ?_))
set_option maxHeartbeats 8000000 in
set_option maxRecDepth 100000 in
theorem bottom_Merge.calls (k : Nat) (a0_0 : Int) (a0_1 : Int) (a0_2 : Int) (P0_3_ : Nat → Prop) (A0_3 : Option Addr) (c0_3 : Nat) (l0_3 : List (S87)) (a1_0 : Int) (a1_1 : Int) (a1_2 : Int) (A1_3 : Option Addr) (c1_3 : Nat) (l1_3 : List (S87)) (r1 : Int) (r2 : Int) (r3 : Int) (r4 : List (S87)) (r5 : Int) (w : World) (hs0_3 : Kd.V k87 87 w w.heap.size (fun k_ => P0_3_ k_) (.slice A0_3 l0_3.length c0_3) l0_3) (hr1_3 : Kd.C k87 w A1_3 l1_3.length l1_3) (hc1_3 : l1_3.length ≤ c1_3) (h : bottom_Merge.f k a0_0 a0_1 a0_2 l0_3 a1_0 a1_1 a1_2 l1_3 = some (r1, r2, r3, r4, r5)) :
  Calls Try.prog 41 #[.agg #[.int .u64 a0_0, .int .u64 a0_1, .int .i64 a0_2, .slice A0_3 l0_3.length c0_3], .agg #[.int .u64 a1_0, .int .u64 a1_1, .int .i64 a1_2, .slice A1_3 l1_3.length c1_3]] w fun e w' => ∃ v3_ : Value, e = .returned (.tuple #[.agg #[.int .u64 r1, .int .u64 r2, .int .i64 r3, v3_], .int .i64 r5]) ∧ Kd.V k87 87 w' w.heap.size (fun k_ => (P0_3_ k_ ∨ w.heap.size ≤ k_)) v3_ r4 ∧ Below w.heap.size w w' := by
 have hu40 := Try.underlying40
 have hu24 := Try.underlying24
 have hu87 := Try.underlying87
 have HO0_3 := am (show Kd.V k87 87 w w.heap.size (fun k_ => (P0_3_ k_ ∨ w.heap.size ≤ k_)) (.slice A0_3 l0_3.length c0_3) l0_3 from Kd.V_mono hs0_3 (fun k_ hk => .inl hk))
 have HR1_3 := am hr1_3
 have HC1_3 := am hc1_3
 clear hr1_3 hc1_3
 have HB := am (Below.refl w.heap.size w)
 have H : ((bottom_Right.f k a0_0 a0_1 a0_2 l0_3).bind fun t270 => (if t270 = true then ((bottom_Right.f k a1_0 a1_1 a1_2 l1_3).bind fun t271 => (bottom_Merge.j0 k (!t271) a0_0 a0_1 a0_2 l0_3 a1_0 a1_1 a1_2 l1_3)) else (bottom_Merge.j0 k true a0_0 a0_1 a0_2 l0_3 a1_0 a1_1 a1_2 l1_3))) = some (r1, r2, r3, r4, r5) := h
 clear h
 have HC3 := am H
 clear H
 go_enter Try.func41, Try.ntmps41
 go_upto_region 1 with (first | ((with_reducible refine gate_dst (N := 2) rfl ?_); refine be 2 #[.int .u64 a0_0, .int .u64 a0_1, .int .i64 a0_2, .slice A0_3 l0_3.length c0_3] 40 ?_; intro gb267 hg w4 hbox hb; replace HO0_3 := am (Kd.V_below (Kd.V_elderB (pv HO0_3.out) gb267 (Nat.le_of_eq hg.symm)) hb); have BK267 := am (hbox); have GW267 := am ((pg hg HB : w.heap.size ≤ gb267)); have GE267 := am ((pg hg HB : w.heap.size ≤ gb267)); replace HB := am (below_step (pb HB) hb); clear hb hbox hg) | ((with_reducible refine gate_dst (N := 3) rfl ?_); refine be 3 #[.int .u64 a1_0, .int .u64 a1_1, .int .i64 a1_2, .slice A1_3 l1_3.length c1_3] 40 ?_; intro gb268 hg w5 hbox hb; replace HO0_3 := am (Kd.V_below (Kd.V_elderB (pv HO0_3.out) gb268 (Nat.le_of_eq hg.symm)) hb); have BK268 := am (hbox); have GW268 := am ((pg hg HB : w.heap.size ≤ gb268)); have GE268 := am ((pg hg HB : w.heap.size ≤ gb268)); replace HB := am (below_step (pb HB) hb); obtain ⟨NB267_268, NB268_267, -, -⟩ := pm hg BK267; replace BK267 := am (blk_below (pk BK267.out) hb); clear hb hbox hg) | ((with_reducible refine gate_dst (N := 4) rfl ?_); refine be 4 #[.int .u64 0, .int .u64 0, .int .i64 0, .slice none 0 0] 40 ?_; intro gb269 hg w6 hbox hb; replace HO0_3 := am (Kd.V_below (Kd.V_elderB (pv HO0_3.out) gb269 (Nat.le_of_eq hg.symm)) hb); have BK269 := am (hbox); have GW269 := am ((pg hg HB : w.heap.size ≤ gb269)); have GE269 := am ((pg hg HB : w.heap.size ≤ gb269)); replace HB := am (below_step (pb HB) hb); obtain ⟨NB267_269, NB269_267, -, -⟩ := pm hg BK267; replace BK267 := am (blk_below (pk BK267.out) hb); obtain ⟨NB268_269, NB269_268, -, -⟩ := pm hg BK268; replace BK268 := am (blk_below (pk BK268.out) hb); clear hb hbox hg))
 (try simp only [Act.put, List.setIfInBounds_toArray, List.set_cons_zero, List.set_cons_succ])
 go_cut [8] (fun v8 wc => ∃ (kq : Nat) (x8_2 : Bool), v8 = .bool x8_2 ∧ Aside0 (bottom_Merge.j0 kq x8_2 a0_0 a0_1 a0_2 l0_3 a1_0 a1_1 a1_2 l1_3 = some (r1, r2, r3, r4, r5)) ∧ Aside0 (kq ≤ k) ∧ Aside0 (Kd.V k87 87 wc w.heap.size (fun k_ => (P0_3_ k_ ∨ w.heap.size ≤ k_) ∧ k_ ≠ gb267 ∧ k_ ≠ gb268 ∧ k_ ≠ gb269) (.slice A0_3 l0_3.length c0_3) l0_3) ∧ Aside0 (wc.heap[gb267]? = some (.cells #[.int .u64 a0_0, .int .u64 a0_1, .int .i64 a0_2, (.slice A0_3 l0_3.length c0_3)] 40 (0, 0))) ∧ Aside0 (wc.heap[gb268]? = some (.cells #[.int .u64 a1_0, .int .u64 a1_1, .int .i64 a1_2, (.slice A1_3 l1_3.length c1_3)] 40 (0, 0))) ∧ Aside0 (wc.heap[gb269]? = some (.cells #[.int .u64 0, .int .u64 0, .int .i64 0, (.slice none 0 0)] 40 (0, 0))) ∧ Aside0 (Below w.heap.size w wc))
 case first =>
  have H := HC3.out
  clear HC3
  replace H := Option.bind_eq_some_iff.mp H
  obtain ⟨t270, A70, H⟩ := H
  try dsimp only at H
  have A7 := am A70
  clear A70
  by_cases c8 : t270 = true
  ·subst c8
   have H1 : ((bottom_Right.f k a1_0 a1_1 a1_2 l1_3).bind fun t271 => (bottom_Merge.j0 k (!t271) a0_0 a0_1 a0_2 l0_3 a1_0 a1_1 a1_2 l1_3)) = some (r1, r2, r3, r4, r5) := by rw [if_pos rfl] at H; exact H
   clear H
   have H := H1
   clear H1
   replace H := Option.bind_eq_some_iff.mp H
   obtain ⟨t271, A90, H⟩ := H
   try dsimp only at H
   have A9 := am A90
   clear A90
   have H' := am H
   clear H
   have hnb10 := NB267_268.out
   have hnc10 := NB268_267.out
   have hnb11 := NB267_269.out
   have hnc11 := NB269_267.out
   obtain ⟨hcz12_0, hcz12_1, hcz12_2, hcz12_3, hfz12_0, hfz12_1, hfz12_2, hfz12_3⟩ := g4 BK267
   go_wp2_with (first | ((with_reducible refine gate_callee (f := 31) rfl ?_); refine gl (some 10) Try.func31 #[.agg #[.int .u64 a0_0, .int .u64 a0_1, .int .i64 a0_2, .slice A0_3 l0_3.length c0_3]] ?_; (with_reducible refine (bottom_Right.calls k a0_0 a0_1 a0_2 _ _ l0_3 true _ ?side1 ?side2 A7.out).mono ?_); (case side1 => repeat (first | exact (Kd.V_reads' HO0_3.out).2.2 | (with_reducible refine Kd.C_alloc ?_ _) | (with_reducible refine Kd.C_drewN ?_ _) | (with_reducible refine Kd.C_drew ?_))); (case side2 => exact (Kd.V_reads' HO0_3.out).2.1); rintro e w13 ⟨rfl, hb⟩; refine ⟨_, rfl, ?_⟩; replace HO0_3 := am (Kd.V_below (pv HO0_3.out) hb); replace BK267 := am (blk_below (pk BK267.out) hb); replace BK268 := am (blk_below (pk BK268.out) hb); replace BK269 := am (blk_below (pk BK269.out) hb); replace HB := am (below_step (pb HB) hb); (try clear hb); (try clear hb2); (try clear hk); (try clear hi); have hnb14 := NB268_269.out; have hnc14 := NB269_268.out; obtain ⟨hcz15_0, hcz15_1, hcz15_2, hcz15_3, hfz15_0, hfz15_1, hfz15_2, hfz15_3⟩ := g4 BK268) | (go_at_call 31; (with_reducible refine (bottom_Right.calls k a1_0 a1_1 a1_2 _ _ l1_3 t271 _ ?side1 ?side2 A9.out).mono ?_); (case side1 => repeat (first | exact (Kd.C_below HR1_3.out HB.out) | (with_reducible refine Kd.C_alloc ?_ _) | (with_reducible refine Kd.C_drewN ?_ _) | (with_reducible refine Kd.C_drew ?_))); (case side2 => exact HC1_3.out); rintro e w16 ⟨rfl, hb⟩; replace HO0_3 := am (Kd.V_below (pv HO0_3.out) hb); replace BK267 := am (blk_below (pk BK267.out) hb); replace BK268 := am (blk_below (pk BK268.out) hb); replace BK269 := am (blk_below (pk BK269.out) hb); replace HB := am (below_step (pb HB) hb); (try clear hb); (try clear hb2); (try clear hk); (try clear hi)))
   go_meet
   case rel => exact ⟨_, (!t271), (by first | rfl | (simp; done) | (simp [*]; done)), H', ⟨by first | omega | exact Nat.le_refl _⟩, ⟨by refine pv ?_; exact Kd.V_mono HO0_3.out (fun _ hk => ⟨hk.1.1.1, ⟨hk.1.1.2, ⟨hk.1.2, hk.2⟩⟩⟩)⟩, ⟨pk BK267.out⟩, ⟨pk BK268.out⟩, ⟨pk BK269.out⟩, ⟨pb HB⟩⟩
  ·replace c8 := Bool.eq_false_iff.mpr c8
   subst c8
   have H1 : (bottom_Merge.j0 k true a0_0 a0_1 a0_2 l0_3 a1_0 a1_1 a1_2 l1_3) = some (r1, r2, r3, r4, r5) := by rw [if_neg (show ¬ (false = true) by decide)] at H; exact H
   clear H
   have H := H1
   clear H1
   have H' := am H
   clear H
   have hnb17 := NB267_268.out
   have hnc17 := NB268_267.out
   have hnb18 := NB267_269.out
   have hnc18 := NB269_267.out
   obtain ⟨hcz19_0, hcz19_1, hcz19_2, hcz19_3, hfz19_0, hfz19_1, hfz19_2, hfz19_3⟩ := g4 BK267
   go_wp2_with (first | ((with_reducible refine gate_callee (f := 31) rfl ?_); refine gl (some 10) Try.func31 #[.agg #[.int .u64 a0_0, .int .u64 a0_1, .int .i64 a0_2, .slice A0_3 l0_3.length c0_3]] ?_; (with_reducible refine (bottom_Right.calls k a0_0 a0_1 a0_2 _ _ l0_3 false _ ?side1 ?side2 A7.out).mono ?_); (case side1 => repeat (first | exact (Kd.V_reads' HO0_3.out).2.2 | (with_reducible refine Kd.C_alloc ?_ _) | (with_reducible refine Kd.C_drewN ?_ _) | (with_reducible refine Kd.C_drew ?_))); (case side2 => exact (Kd.V_reads' HO0_3.out).2.1); rintro e w20 ⟨rfl, hb⟩; refine ⟨_, rfl, ?_⟩; replace HO0_3 := am (Kd.V_below (pv HO0_3.out) hb); replace BK267 := am (blk_below (pk BK267.out) hb); replace BK268 := am (blk_below (pk BK268.out) hb); replace BK269 := am (blk_below (pk BK269.out) hb); replace HB := am (below_step (pb HB) hb); (try clear hb); (try clear hb2); (try clear hk); (try clear hi)))
   go_meet
   case rel => exact ⟨_, (true), (by first | rfl | (simp; done) | (simp [*]; done)), H', ⟨by first | omega | exact Nat.le_refl _⟩, ⟨by refine pv ?_; exact Kd.V_mono HO0_3.out (fun _ hk => ⟨hk.1.1.1, ⟨hk.1.1.2, ⟨hk.1.2, hk.2⟩⟩⟩)⟩, ⟨pk BK267.out⟩, ⟨pk BK268.out⟩, ⟨pk BK269.out⟩, ⟨pb HB⟩⟩
 case rest =>
  clear HC3
  try clear c1
  try clear p2
  try clear c3
  try clear c4
  try clear c8
  try clear c10
  try clear c11
  try clear c14
  try clear c17
  try clear c18
  try clear hcz12_0 hcz12_1 hcz12_2 hcz12_3
  try clear hcz15_0 hcz15_1 hcz15_2 hcz15_3
  try clear hcz19_0 hcz19_1 hcz19_2 hcz19_3
  try clear hfz12_0 hfz12_1 hfz12_2 hfz12_3
  try clear hfz15_0 hfz15_1 hfz15_2 hfz15_3
  try clear hfz19_0 hfz19_1 hfz19_2 hfz19_3
  obtain ⟨kq, x8_2, rfl, HA, HJ2, HO_268003, BK267, BK268, BK269, HB⟩ := hcut
  cases kq with
  | zero => exact absurd HA.out (by simp [bottom_Merge.j0])
  | succ kj2 =>
   have H := HA.out
   clear HA
   simp only [bottom_Merge.j0] at H
   by_cases c21 : x8_2 = true
   ·subst c21
    have H1 : (some (0, 0, 0, ([] : List (S87)), 1)) = some (r1, r2, r3, r4, r5) := by rw [if_pos rfl] at H; exact H
    clear H
    have H := H1
    clear H1
    simp only [Option.some.injEq, Prod.mk.injEq] at H
    obtain ⟨rfl, rfl, rfl, rfl, rfl⟩ := H
    have hnb22 := NB269_267.out
    have hnc22 := NB267_269.out
    have hnb23 := NB269_268.out
    have hnc23 := NB268_269.out
    obtain ⟨hcz24_0, hcz24_1, hcz24_2, hcz24_3, hfz24_0, hfz24_1, hfz24_2, hfz24_3⟩ := g4 BK269
    go_wp2
    refine bodyPost_ret (results_ct rfl _ _ gb269 40 #[.int .u64 0, .int .u64 0, .int .i64 0, .slice none 0 0] (0, 0) _ rfl (by refine pk ?_; refine blk_put (cs := #[.int .u64 0, .int .u64 0, .int .i64 0, .slice none 0 0]) ?_ 3 _ rfl; refine pk ?_; refine blk_put (cs := #[.int .u64 0, .int .u64 0, .int .i64 0, .slice none 0 0]) ?_ 2 _ rfl; refine pk ?_; refine blk_put (cs := #[.int .u64 0, .int .u64 0, .int .i64 0, .slice none 0 0]) ?_ 1 _ rfl; refine pk ?_; refine blk_put (cs := #[.int .u64 0, .int .u64 0, .int .i64 0, .slice none 0 0]) ?_ 0 _ rfl; refine pk ?_; exact BK269.out) Try.underlying40 rfl (by kernel_rfl)) rfl ?_
    exact ⟨_, by first | rfl | (simp [errW_none, errW_some] <;> rfl) | (simp [*, errW_none, errW_some] <;> rfl), Kd.V_nil _ _ _ _ _, pb HB⟩
   ·replace c21 := Bool.eq_false_iff.mpr c21
    subst c21
    have H1 : (if (!(a0_0 == a1_0) || (!(a0_1 == a1_1))) = true then (some (0, 0, 0, ([] : List (S87)), 9)) else (if a0_2 = a1_2 then ((bottom_wraps.f kj2 a0_0 a0_1 a0_2 l0_3 a1_0 a1_1 a1_2 l1_3).bind fun t272 => (if t272 = true then (some (0, 0, 0, ([] : List (S87)), 12)) else (bottom_Merge.l0 kj2 l1_3 (l1_3.length : Int) 0 a0_0 a0_1 a0_2 l0_3))) else (some (0, 0, 0, ([] : List (S87)), 10)))) = some (r1, r2, r3, r4, r5) := by rw [if_neg (show ¬ (false = true) by decide)] at H; exact H
    clear H
    have H := H1
    clear H1
    by_cases c25 : (!(a0_0 == a1_0) || (!(a0_1 == a1_1))) = true
    ·rw [if_pos c25] at H
     have c25b0 : (!(a0_0 == a1_0) || (!(a0_1 == a1_1))) = true := c25
     clear c25
     simp only [Option.some.injEq, Prod.mk.injEq] at H
     obtain ⟨rfl, rfl, rfl, rfl, rfl⟩ := H
     have hnb26 := NB267_268.out
     have hnc26 := NB268_267.out
     have hnb27 := NB267_269.out
     have hnc27 := NB269_267.out
     obtain ⟨hcz28_0, hcz28_1, hcz28_2, hcz28_3, hfz28_0, hfz28_1, hfz28_2, hfz28_3⟩ := g4 BK267
     have hnb29 := NB268_269.out
     have hnc29 := NB269_268.out
     obtain ⟨hcz30_0, hcz30_1, hcz30_2, hcz30_3, hfz30_0, hfz30_1, hfz30_2, hfz30_3⟩ := g4 BK268
     obtain ⟨hcz31_0, hcz31_1, hcz31_2, hcz31_3, hfz31_0, hfz31_1, hfz31_2, hfz31_3⟩ := g4 BK269
     go_wp2
     refine bodyPost_ret (results_ct rfl _ _ gb269 40 #[.int .u64 0, .int .u64 0, .int .i64 0, .slice none 0 0] (0, 0) _ rfl (by refine pk ?_; refine blk_put (cs := #[.int .u64 0, .int .u64 0, .int .i64 0, .slice none 0 0]) ?_ 3 _ rfl; refine pk ?_; refine blk_put (cs := #[.int .u64 0, .int .u64 0, .int .i64 0, .slice none 0 0]) ?_ 2 _ rfl; refine pk ?_; refine blk_put (cs := #[.int .u64 0, .int .u64 0, .int .i64 0, .slice none 0 0]) ?_ 1 _ rfl; refine pk ?_; refine blk_put (cs := #[.int .u64 0, .int .u64 0, .int .i64 0, .slice none 0 0]) ?_ 0 _ rfl; refine pk ?_; exact BK269.out) Try.underlying40 rfl (by kernel_rfl)) rfl ?_
     exact ⟨_, by first | rfl | (simp [errW_none, errW_some] <;> rfl) | (simp [*, errW_none, errW_some] <;> rfl), Kd.V_nil _ _ _ _ _, pb HB⟩
    ·rw [if_neg c25] at H
     have c25b0 : (!(a0_0 == a1_0) || (!(a0_1 == a1_1))) = false := by simpa using c25
     clear c25
     by_cases c32 : a0_2 = a1_2
     ·rw [if_pos c32] at H
      have c32b0 : (a0_2 == a1_2) = true := beq_iff_eq.mpr c32
      have c32b1 : (a0_2 != a1_2) = false := bne_eq_false_iff_eq.mpr c32
      clear c32
      replace H := Option.bind_eq_some_iff.mp H
      obtain ⟨t272, A330, H⟩ := H
      try dsimp only at H
      have A33 := am A330
      clear A330
      by_cases c34 : t272 = true
      ·subst c34
       have H1 : (some (0, 0, 0, ([] : List (S87)), 12)) = some (r1, r2, r3, r4, r5) := by rw [if_pos rfl] at H; exact H
       clear H
       have H := H1
       clear H1
       simp only [Option.some.injEq, Prod.mk.injEq] at H
       obtain ⟨rfl, rfl, rfl, rfl, rfl⟩ := H
       have hnb35 := NB267_268.out
       have hnc35 := NB268_267.out
       have hnb36 := NB267_269.out
       have hnc36 := NB269_267.out
       obtain ⟨hcz37_0, hcz37_1, hcz37_2, hcz37_3, hfz37_0, hfz37_1, hfz37_2, hfz37_3⟩ := g4 BK267
       have hnb38 := NB268_269.out
       have hnc38 := NB269_268.out
       obtain ⟨hcz39_0, hcz39_1, hcz39_2, hcz39_3, hfz39_0, hfz39_1, hfz39_2, hfz39_3⟩ := g4 BK268
       go_wp2_with (first | ((with_reducible refine gate_callee (f := 59) rfl ?_); refine gl (some 35) Try.func59 #[.agg #[.int .u64 a0_0, .int .u64 a0_1, .int .i64 a0_2, .slice A0_3 l0_3.length c0_3], .agg #[.int .u64 a1_0, .int .u64 a1_1, .int .i64 a1_2, .slice A1_3 l1_3.length c1_3]] ?_; (with_reducible refine (bottom_wraps.calls kj2 a0_0 a0_1 a0_2 _ _ l0_3 a1_0 a1_1 a1_2 _ _ l1_3 true _ ?side1 ?side2 ?side3 ?side4 A33.out).mono ?_); (case side1 => repeat (first | exact (Kd.V_reads' HO_268003.out).2.2 | (with_reducible refine Kd.C_alloc ?_ _) | (with_reducible refine Kd.C_drewN ?_ _) | (with_reducible refine Kd.C_drew ?_))); (case side2 => exact (Kd.V_reads' HO_268003.out).2.1); (case side3 => repeat (first | exact (Kd.C_below HR1_3.out HB.out) | (with_reducible refine Kd.C_alloc ?_ _) | (with_reducible refine Kd.C_drewN ?_ _) | (with_reducible refine Kd.C_drew ?_))); (case side4 => exact HC1_3.out); rintro e w40 ⟨rfl, hb⟩; refine ⟨_, rfl, ?_⟩; replace HO_268003 := am (Kd.V_below (pv HO_268003.out) hb); replace BK267 := am (blk_below (pk BK267.out) hb); replace BK268 := am (blk_below (pk BK268.out) hb); replace BK269 := am (blk_below (pk BK269.out) hb); replace HB := am (below_step (pb HB) hb); (try clear hb); (try clear hb2); (try clear hk); (try clear hi); obtain ⟨hcz41_0, hcz41_1, hcz41_2, hcz41_3, hfz41_0, hfz41_1, hfz41_2, hfz41_3⟩ := g4 BK269))
       refine bodyPost_ret (results_ct rfl _ _ gb269 40 #[.int .u64 0, .int .u64 0, .int .i64 0, .slice none 0 0] (0, 0) _ rfl (by refine pk ?_; refine blk_put (cs := #[.int .u64 0, .int .u64 0, .int .i64 0, .slice none 0 0]) ?_ 3 _ rfl; refine pk ?_; refine blk_put (cs := #[.int .u64 0, .int .u64 0, .int .i64 0, .slice none 0 0]) ?_ 2 _ rfl; refine pk ?_; refine blk_put (cs := #[.int .u64 0, .int .u64 0, .int .i64 0, .slice none 0 0]) ?_ 1 _ rfl; refine pk ?_; refine blk_put (cs := #[.int .u64 0, .int .u64 0, .int .i64 0, .slice none 0 0]) ?_ 0 _ rfl; refine pk ?_; exact BK269.out) Try.underlying40 rfl (by kernel_rfl)) rfl ?_
       exact ⟨_, by first | rfl | (simp [errW_none, errW_some] <;> rfl) | (simp [*, errW_none, errW_some] <;> rfl), Kd.V_nil _ _ _ _ _, pb HB⟩
      ·replace c34 := Bool.eq_false_iff.mpr c34
       subst c34
       have H1 : (bottom_Merge.l0 kj2 l1_3 (l1_3.length : Int) 0 a0_0 a0_1 a0_2 l0_3) = some (r1, r2, r3, r4, r5) := by rw [if_neg (show ¬ (false = true) by decide)] at H; exact H
       clear H
       have H := H1
       clear H1
       have H' := am H
       clear H
       have hnb42 := NB267_268.out
       have hnc42 := NB268_267.out
       have hnb43 := NB267_269.out
       have hnc43 := NB269_267.out
       obtain ⟨hcz44_0, hcz44_1, hcz44_2, hcz44_3, hfz44_0, hfz44_1, hfz44_2, hfz44_3⟩ := g4 BK267
       have hnb45 := NB268_269.out
       have hnc45 := NB269_268.out
       obtain ⟨hcz46_0, hcz46_1, hcz46_2, hcz46_3, hfz46_0, hfz46_1, hfz46_2, hfz46_3⟩ := g4 BK268
       go_wp2_with (first | ((with_reducible refine gate_callee (f := 59) rfl ?_); refine gl (some 35) Try.func59 #[.agg #[.int .u64 a0_0, .int .u64 a0_1, .int .i64 a0_2, .slice A0_3 l0_3.length c0_3], .agg #[.int .u64 a1_0, .int .u64 a1_1, .int .i64 a1_2, .slice A1_3 l1_3.length c1_3]] ?_; (with_reducible refine (bottom_wraps.calls kj2 a0_0 a0_1 a0_2 _ _ l0_3 a1_0 a1_1 a1_2 _ _ l1_3 false _ ?side1 ?side2 ?side3 ?side4 A33.out).mono ?_); (case side1 => repeat (first | exact (Kd.V_reads' HO_268003.out).2.2 | (with_reducible refine Kd.C_alloc ?_ _) | (with_reducible refine Kd.C_drewN ?_ _) | (with_reducible refine Kd.C_drew ?_))); (case side2 => exact (Kd.V_reads' HO_268003.out).2.1); (case side3 => repeat (first | exact (Kd.C_below HR1_3.out HB.out) | (with_reducible refine Kd.C_alloc ?_ _) | (with_reducible refine Kd.C_drewN ?_ _) | (with_reducible refine Kd.C_drew ?_))); (case side4 => exact HC1_3.out); rintro e w47 ⟨rfl, hb⟩; refine ⟨_, rfl, ?_⟩; replace HO_268003 := am (Kd.V_below (pv HO_268003.out) hb); replace BK267 := am (blk_below (pk BK267.out) hb); replace BK268 := am (blk_below (pk BK268.out) hb); replace BK269 := am (blk_below (pk BK269.out) hb); replace HB := am (below_step (pb HB) hb); (try clear hb); (try clear hb2); (try clear hk); (try clear hi); obtain ⟨hcz48_0, hcz48_1, hcz48_2, hcz48_3, hfz48_0, hfz48_1, hfz48_2, hfz48_3⟩ := g4 BK268))
       go_loopg [40] kj2 (fun kq v40 w' => ∃ (x40_2 : Int) (x268000_2 : Int) (x268001_2 : Int) (x268002_2 : Int) (x268003_2 : List (S87)) (u268003 : Value), v40 = .int .i64 x40_2 ∧ Aside0 (bottom_Merge.l0 kq l1_3 (l1_3.length : Int) x40_2 x268000_2 x268001_2 x268002_2 x268003_2 = some (r1, r2, r3, r4, r5)) ∧ Aside0 (kq ≤ kj2) ∧ Aside0 (Kd.V k87 87 w' w.heap.size (fun k_ => (P0_3_ k_ ∨ w.heap.size ≤ k_) ∧ k_ ≠ gb267 ∧ k_ ≠ gb268 ∧ k_ ≠ gb269) u268003 x268003_2) ∧ Aside0 (w'.heap[gb267]? = some (.cells #[.int .u64 x268000_2, .int .u64 x268001_2, .int .i64 x268002_2, u268003] 40 (0, 0))) ∧ Aside0 (w'.heap[gb268]? = some (.cells #[.int .u64 a1_0, .int .u64 a1_1, .int .i64 a1_2, (.slice A1_3 l1_3.length c1_3)] 40 (0, 0))) ∧ Aside0 (w'.heap[gb269]? = some (.cells #[.int .u64 0, .int .u64 0, .int .i64 0, (.slice none 0 0)] 40 (0, 0))) ∧ Aside0 (Below w.heap.size w w'))
       case atStart => exact ⟨(0), (a0_0), (a0_1), (a0_2), (l0_3), (.slice A0_3 l0_3.length c0_3), (by first | rfl | (simp; done) | (simp [*]; done)), H', ⟨Nat.le_refl _⟩, ⟨pv HO_268003.out⟩, ⟨pk BK267.out⟩, ⟨pk BK268.out⟩, ⟨pk BK269.out⟩, ⟨pb HB⟩⟩
       case round =>
        clear H'
        try clear c1
        try clear c2
        try clear p2
        try clear c3
        try clear c4
        try clear c5
        try clear c8
        try clear c10
        try clear c11
        try clear c14
        try clear c17
        try clear c18
        try clear c21
        try clear c22
        try clear c23
        try clear c25
        try clear c25b0
        try clear c26
        try clear c27
        try clear c29
        try clear c31
        try clear c32
        try clear c32b0
        try clear c32b1
        try clear c34
        try clear c35
        try clear c36
        try clear c38
        try clear c41
        try clear c42
        try clear c43
        try clear c45
        try clear hcz12_0 hcz12_1 hcz12_2 hcz12_3
        try clear hcz15_0 hcz15_1 hcz15_2 hcz15_3
        try clear hcz19_0 hcz19_1 hcz19_2 hcz19_3
        try clear hcz24_0 hcz24_1 hcz24_2 hcz24_3
        try clear hcz28_0 hcz28_1 hcz28_2 hcz28_3
        try clear hcz30_0 hcz30_1 hcz30_2 hcz30_3
        try clear hcz31_0 hcz31_1 hcz31_2 hcz31_3
        try clear hcz37_0 hcz37_1 hcz37_2 hcz37_3
        try clear hcz39_0 hcz39_1 hcz39_2 hcz39_3
        try clear hcz41_0 hcz41_1 hcz41_2 hcz41_3
        try clear hcz44_0 hcz44_1 hcz44_2 hcz44_3
        try clear hcz46_0 hcz46_1 hcz46_2 hcz46_3
        try clear hcz48_0 hcz48_1 hcz48_2 hcz48_3
        try clear hfz12_0 hfz12_1 hfz12_2 hfz12_3
        try clear hfz15_0 hfz15_1 hfz15_2 hfz15_3
        try clear hfz19_0 hfz19_1 hfz19_2 hfz19_3
        try clear hfz24_0 hfz24_1 hfz24_2 hfz24_3
        try clear hfz28_0 hfz28_1 hfz28_2 hfz28_3
        try clear hfz30_0 hfz30_1 hfz30_2 hfz30_3
        try clear hfz31_0 hfz31_1 hfz31_2 hfz31_3
        try clear hfz37_0 hfz37_1 hfz37_2 hfz37_3
        try clear hfz39_0 hfz39_1 hfz39_2 hfz39_3
        try clear hfz41_0 hfz41_1 hfz41_2 hfz41_3
        try clear hfz44_0 hfz44_1 hfz44_2 hfz44_3
        try clear hfz46_0 hfz46_1 hfz46_2 hfz46_3
        try clear hfz48_0 hfz48_1 hfz48_2 hfz48_3
        try clear p2
        obtain ⟨x40_2, x268000_2, x268001_2, x268002_2, x268003_2, u268003, rfl, HA, HK2, HO_268003, BK267, BK268, BK269, HB⟩ := hrel
        cases gk with
        | zero => exact absurd HA.out (by simp [bottom_Merge.l0])
        | succ k2 =>
         have H := HA.out
         clear HA
         simp only [bottom_Merge.l0] at H
         by_cases c49 : x40_2 < (l1_3.length : Int)
         ·rw [if_pos c49] at H
          have c49b0 : decide (x40_2 < (l1_3.length : Int)) = true := decide_eq_true c49
          clear c49
          by_cases c50 : 0 ≤ x40_2
          ·rw [if_pos c50] at H
           have c50b0 : decide (0 ≤ x40_2) = true := decide_eq_true c50
           clear c50
           by_cases c51 : x40_2 < (l1_3.length : Int)
           ·rw [if_pos c51] at H
            have c51b0 : decide (x40_2 < (l1_3.length : Int)) = true := decide_eq_true c51
            clear c51
            replace H := Option.bind_eq_some_iff.mp H
            obtain ⟨⟨t275, t276, t277, t278, t281⟩, A520, H⟩ := H
            try dsimp only at H
            have A52 := am A520
            clear A520
            have H' := am H
            clear H
            have p273 : 0 ≤ (x40_2 : Int) := of_decide_eq_true (by first | (with_reducible assumption) | assumption)
            have q273 : x40_2 < (l1_3.length : Int) := of_decide_eq_true (by first | (with_reducible assumption) | assumption)
            obtain ⟨ad273, e273, hx273_0, hx273_1, hx273_2, hx273_3⟩ := at_T87 HR1_3.out x40_2 p273 q273
            cases e273
            replace hx273_0 := (HB.out.cell (World.block_lt_of_cell? w _ hx273_0)).trans hx273_0
            replace hx273_1 := (HB.out.cell (World.block_lt_of_cell? w _ hx273_1)).trans hx273_1
            replace hx273_2 := (HB.out.cell (World.block_lt_of_cell? w _ hx273_2)).trans hx273_2
            replace hx273_3 := (HB.out.cell (World.block_lt_of_cell? w _ hx273_3)).trans hx273_3
            replace p273 := eq_true p273
            replace q273 := eq_true q273
            go_wp2_with (first | ((with_reducible refine gate_dst (N := 7) rfl ?_); refine be 7 #[.string (⟨#[]⟩ : ByteArray), .int .u64 0, .int .u64 0, .int .u64 0] 87 ?_; intro gb274 hg w53 hbox hb; replace HO_268003 := am (Kd.V_below (Kd.V_elderB (pv HO_268003.out) gb274 (Nat.le_of_eq hg.symm)) hb); have BK274 := am (hbox); have GW274 := am ((pg hg HB : w.heap.size ≤ gb274)); have GE274 := am ((pg hg HB : w.heap.size ≤ gb274)); replace HB := am (below_step (pb HB) hb); obtain ⟨NB267_274, NB274_267, hnc54, hnb54⟩ := pm hg BK267; replace BK267 := am (blk_below (pk BK267.out) hb); obtain ⟨NB268_274, NB274_268, hnc55, hnb55⟩ := pm hg BK268; replace BK268 := am (blk_below (pk BK268.out) hb); obtain ⟨NB269_274, NB274_269, hnc56, hnb56⟩ := pm hg BK269; replace BK269 := am (blk_below (pk BK269.out) hb); clear hb hbox hg; obtain ⟨hcz57_0, hcz57_1, hcz57_2, hcz57_3, hfz57_0, hfz57_1, hfz57_2, hfz57_3⟩ := g4 BK274) | ((with_reducible refine gate_store (t := 87) (p := 7) rfl ?_); refine store_event (t := 87) (p := 7) (v := ?vo_w58) (w1 := ((((w53.setCell ⟨gb274, 0, none⟩ (.string ((rd_T87 l1_3 x40_2).f0))).setCell ⟨gb274, 1, none⟩ (.int .u64 ((rd_T87 l1_3 x40_2).f1))).setCell ⟨gb274, 2, none⟩ (.int .u64 ((rd_T87 l1_3 x40_2).f2.f0))).setCell ⟨gb274, 3, none⟩ (.int .u64 ((rd_T87 l1_3 x40_2).f2.f1)))) ?hg ?ho ?hn ?hr ?_; (case ho => rfl); (case hg => rfl); (case hn => rfl); (case hr => first | (go_simp; done) | (go_simp; rfl)); intro w58 hw; replace HO_268003 := vf (f4 hw) HO_268003 (fun _ hk => hk.2); replace BK267 := bf (f4 hw) BK267 NB267_274.out; replace BK268 := bf (f4 hw) BK268 NB268_274.out; replace BK269 := bf (f4 hw) BK269 NB269_274.out; replace BK274 := s4 hw BK274; replace HB : Aside0 (Below w.heap.size w w58) := ⟨(by rw [hw]; exact (pb HB))⟩; (try simp only [and_assoc] at HO_268003); clear hw; have hnb59 := NB267_268.out; have hnc59 := NB268_267.out; have hnb60 := NB267_269.out; have hnc60 := NB269_267.out; obtain ⟨hcz61_0, hcz61_1, hcz61_2, hcz61_3, hfz61_0, hfz61_1, hfz61_2, hfz61_3⟩ := g4 BK267; obtain ⟨hcz62_0, hcz62_1, hcz62_2, hcz62_3, hfz62_0, hfz62_1, hfz62_2, hfz62_3⟩ := g4 BK274; obtain ⟨Ao63, co63, eo63⟩ := Kd.V_slice HO_268003.out; subst eo63) | ((with_reducible refine gate_callee (f := 32) rfl ?_); refine gl (some 47) Try.func32 #[.agg #[.int .u64 x268000_2, .int .u64 x268001_2, .int .i64 x268002_2, .slice Ao63 x268003_2.length co63], .agg #[.string ((rd_T87 l1_3 x40_2).f0), .int .u64 ((rd_T87 l1_3 x40_2).f1), .int .u64 ((rd_T87 l1_3 x40_2).f2.f0), .int .u64 ((rd_T87 l1_3 x40_2).f2.f1)]] ?_; (with_reducible refine (bottom_add.calls k2 x268000_2 x268001_2 x268002_2 (fun k_ => ((P0_3_ k_ ∨ w.heap.size ≤ k_) ∧ (k_ ≠ gb267 ∧ (k_ ≠ gb268 ∧ (k_ ≠ gb269 ∧ k_ ≠ gb274))))) _ _ x268003_2 ((rd_T87 l1_3 x40_2).f0) ((rd_T87 l1_3 x40_2).f1) ((rd_T87 l1_3 x40_2).f2.f0) ((rd_T87 l1_3 x40_2).f2.f1) t275 t276 t277 t278 t281 _ ?side1 A52.out).mono ?_); (case side1 => exact HO_268003.out); rintro e w64 ⟨v279, rfl, ho0, hb⟩; refine ⟨_, rfl, ?_⟩; replace HO_268003 := am (Kd.V_below (pv HO_268003.out) hb); have HO280 := am (Kd.V_lower (Kd.V_mono (ok' := fun k_ => (P0_3_ k_ ∨ w.heap.size ≤ k_) ∧ k_ ≠ gb267 ∧ k_ ≠ gb268 ∧ k_ ≠ gb269 ∧ k_ ≠ gb274) ho0 (fun k_ hk_ => ⟨Or.elim hk_ (fun hs_ => hs_.1) (fun hn_ => (.inr (Nat.le_trans (below_size (pb HB)) hn_))), Or.elim hk_ (fun hs_ => hs_.2.1) (fun hn_ => (Kd.freshB (g := gb267) (o := .cells #[.int .u64 x268000_2, .int .u64 x268001_2, .int .i64 x268002_2, .slice Ao63 x268003_2.length co63] 40 (0, 0)) (pk BK267.out) k_ hn_)), Or.elim hk_ (fun hs_ => hs_.2.2.1) (fun hn_ => (Kd.freshB (g := gb268) (o := .cells #[.int .u64 a1_0, .int .u64 a1_1, .int .i64 a1_2, .slice (some ad273) l1_3.length c1_3] 40 (0, 0)) (pk BK268.out) k_ hn_)), Or.elim hk_ (fun hs_ => hs_.2.2.2.1) (fun hn_ => (Kd.freshB (g := gb269) (o := .cells #[.int .u64 0, .int .u64 0, .int .i64 0, .slice none 0 0] 40 (0, 0)) (pk BK269.out) k_ hn_)), Or.elim hk_ (fun hs_ => hs_.2.2.2.2) (fun hn_ => (Kd.freshB (g := gb274) (o := .cells #[.string ((rd_T87 l1_3 x40_2).f0), .int .u64 ((rd_T87 l1_3 x40_2).f1), .int .u64 ((rd_T87 l1_3 x40_2).f2.f0), .int .u64 ((rd_T87 l1_3 x40_2).f2.f1)] 87 (0, 0)) (pk BK274.out) k_ hn_))⟩)) (below_size (pb HB))); replace BK267 := am (blk_below (pk BK267.out) hb); replace BK268 := am (blk_below (pk BK268.out) hb); replace BK269 := am (blk_below (pk BK269.out) hb); replace BK274 := am (blk_below (pk BK274.out) hb); replace HB := am (below_step (pb HB) hb); (try clear hb); (try clear hb2); (try clear hk); (try clear hi); (try clear ho0); obtain ⟨hcz65_0, hcz65_1, hcz65_2, hcz65_3, hfz65_0, hfz65_1, hfz65_2, hfz65_3⟩ := g4 BK267; obtain ⟨Ao66, co66, eo66⟩ := Kd.V_slice HO280.out; subst eo66))
            go_roundg k2
            case measure => have := HJ2.out; have := HK2.out; omega
            case rel => exact ⟨(wrap64 (x40_2 + 1)), (t275), (t276), (t277), (t278), (.slice Ao66 t278.length co66), (by first | rfl | (simp; done) | (simp [*]; done)), H', ⟨by have := HJ2.out; have := HK2.out; omega⟩, ⟨by refine pv ?_; exact Kd.V_mono (Kd.V_far (p := ⟨gb267, 3, none⟩) (Kd.V_far (p := ⟨gb267, 2, none⟩) (Kd.V_far (p := ⟨gb267, 1, none⟩) (Kd.V_far (p := ⟨gb267, 0, none⟩) (Kd.V_mono HO280.out (fun k_ hk => (⟨hk, hk.2.1⟩ : _ ∧ k_ ≠ gb267))) (fun _ hk => hk.2) (.int .u64 t275)) (fun _ hk => hk.2) (.int .u64 t276)) (fun _ hk => hk.2) (.int .i64 t277)) (fun _ hk => hk.2) (.slice Ao66 t278.length co66)) (fun _ hk => ⟨hk.1.1, ⟨hk.1.2.1, ⟨hk.1.2.2.1, hk.1.2.2.2.1⟩⟩⟩)⟩, ⟨by refine pk ?_; refine blk_put (cs := #[.int .u64 t275, .int .u64 t276, .int .i64 t277, .slice Ao63 x268003_2.length co63]) ?_ 3 _ rfl; refine pk ?_; refine blk_put (cs := #[.int .u64 t275, .int .u64 t276, .int .i64 x268002_2, .slice Ao63 x268003_2.length co63]) ?_ 2 _ rfl; refine pk ?_; refine blk_put (cs := #[.int .u64 t275, .int .u64 x268001_2, .int .i64 x268002_2, .slice Ao63 x268003_2.length co63]) ?_ 1 _ rfl; refine pk ?_; refine blk_put (cs := #[.int .u64 x268000_2, .int .u64 x268001_2, .int .i64 x268002_2, .slice Ao63 x268003_2.length co63]) ?_ 0 _ rfl; refine pk ?_; exact BK267.out⟩, ⟨by refine pk ?_; refine blk_far ?_ NB268_267.out _; refine pk ?_; refine blk_far ?_ NB268_267.out _; refine pk ?_; refine blk_far ?_ NB268_267.out _; refine pk ?_; refine blk_far ?_ NB268_267.out _; refine pk ?_; exact BK268.out⟩, ⟨by refine pk ?_; refine blk_far ?_ NB269_267.out _; refine pk ?_; refine blk_far ?_ NB269_267.out _; refine pk ?_; refine blk_far ?_ NB269_267.out _; refine pk ?_; refine blk_far ?_ NB269_267.out _; refine pk ?_; exact BK269.out⟩, ⟨pb HB⟩⟩
           ·rw [if_neg c51] at H
            exact absurd H (by simp)
          ·rw [if_neg c50] at H
           exact absurd H (by simp)
         ·rw [if_neg c49] at H
          have c49b0 : decide (x40_2 < (l1_3.length : Int)) = false := decide_eq_false c49
          clear c49
          simp only [Option.some.injEq, Prod.mk.injEq] at H
          obtain ⟨rfl, rfl, rfl, rfl, rfl⟩ := H
          have hnb67 := NB267_268.out
          have hnc67 := NB268_267.out
          have hnb68 := NB267_269.out
          have hnc68 := NB269_267.out
          obtain ⟨hcz69_0, hcz69_1, hcz69_2, hcz69_3, hfz69_0, hfz69_1, hfz69_2, hfz69_3⟩ := g4 BK267
          have hnb70 := NB269_268.out
          have hnc70 := NB268_269.out
          obtain ⟨hcz71_0, hcz71_1, hcz71_2, hcz71_3, hfz71_0, hfz71_1, hfz71_2, hfz71_3⟩ := g4 BK269
          obtain ⟨Ao72, co72, eo72⟩ := Kd.V_slice HO_268003.out
          subst eo72
          go_wp2
          refine bodyPost_ret (results_ct rfl _ _ gb269 40 #[.int .u64 x268000_2, .int .u64 x268001_2, .int .i64 x268002_2, .slice Ao72 x268003_2.length co72] (0, 0) _ rfl (by refine pk ?_; refine blk_put (cs := #[.int .u64 x268000_2, .int .u64 x268001_2, .int .i64 x268002_2, .slice none 0 0]) ?_ 3 _ rfl; refine pk ?_; refine blk_put (cs := #[.int .u64 x268000_2, .int .u64 x268001_2, .int .i64 0, .slice none 0 0]) ?_ 2 _ rfl; refine pk ?_; refine blk_put (cs := #[.int .u64 x268000_2, .int .u64 0, .int .i64 0, .slice none 0 0]) ?_ 1 _ rfl; refine pk ?_; refine blk_put (cs := #[.int .u64 0, .int .u64 0, .int .i64 0, .slice none 0 0]) ?_ 0 _ rfl; refine pk ?_; exact BK269.out) Try.underlying40 rfl (by kernel_rfl)) rfl ?_
          exact ⟨_, by first | rfl | (simp [errW_none, errW_some] <;> rfl) | (simp [*, errW_none, errW_some] <;> rfl), by refine pv ?_; exact Kd.V_mono (Kd.V_far (p := ⟨gb269, 3, none⟩) (Kd.V_far (p := ⟨gb269, 2, none⟩) (Kd.V_far (p := ⟨gb269, 1, none⟩) (Kd.V_far (p := ⟨gb269, 0, none⟩) (Kd.V_mono HO_268003.out (fun k_ hk => (⟨hk, hk.2.2.2⟩ : _ ∧ k_ ≠ gb269))) (fun _ hk => hk.2) (.int .u64 x268000_2)) (fun _ hk => hk.2) (.int .u64 x268001_2)) (fun _ hk => hk.2) (.int .i64 x268002_2)) (fun _ hk => hk.2) (.slice Ao72 x268003_2.length co72)) (fun _ hk => hk.1.1), pb HB⟩
     ·rw [if_neg c32] at H
      have c32b0 : (a0_2 == a1_2) = false := beq_eq_false_iff_ne.mpr c32
      have c32b1 : (a0_2 != a1_2) = true := bne_iff_ne.mpr c32
      simp only [Option.some.injEq, Prod.mk.injEq] at H
      obtain ⟨rfl, rfl, rfl, rfl, rfl⟩ := H
      have hnb73 := NB267_268.out
      have hnc73 := NB268_267.out
      have hnb74 := NB267_269.out
      have hnc74 := NB269_267.out
      obtain ⟨hcz75_0, hcz75_1, hcz75_2, hcz75_3, hfz75_0, hfz75_1, hfz75_2, hfz75_3⟩ := g4 BK267
      have hnb76 := NB268_269.out
      have hnc76 := NB269_268.out
      obtain ⟨hcz77_0, hcz77_1, hcz77_2, hcz77_3, hfz77_0, hfz77_1, hfz77_2, hfz77_3⟩ := g4 BK268
      obtain ⟨hcz78_0, hcz78_1, hcz78_2, hcz78_3, hfz78_0, hfz78_1, hfz78_2, hfz78_3⟩ := g4 BK269
      go_wp2
      refine bodyPost_ret (results_ct rfl _ _ gb269 40 #[.int .u64 0, .int .u64 0, .int .i64 0, .slice none 0 0] (0, 0) _ rfl (by refine pk ?_; refine blk_put (cs := #[.int .u64 0, .int .u64 0, .int .i64 0, .slice none 0 0]) ?_ 3 _ rfl; refine pk ?_; refine blk_put (cs := #[.int .u64 0, .int .u64 0, .int .i64 0, .slice none 0 0]) ?_ 2 _ rfl; refine pk ?_; refine blk_put (cs := #[.int .u64 0, .int .u64 0, .int .i64 0, .slice none 0 0]) ?_ 1 _ rfl; refine pk ?_; refine blk_put (cs := #[.int .u64 0, .int .u64 0, .int .i64 0, .slice none 0 0]) ?_ 0 _ rfl; refine pk ?_; exact BK269.out) Try.underlying40 rfl (by kernel_rfl)) rfl ?_
      exact ⟨_, by first | rfl | (simp [errW_none, errW_some] <;> rfl) | (simp [*, errW_none, errW_some] <;> rfl), Kd.V_nil _ _ _ _ _, pb HB⟩
end Go.Proofs.Ytpbiobbddgipkaa.H
