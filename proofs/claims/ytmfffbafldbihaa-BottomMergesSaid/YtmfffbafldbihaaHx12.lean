import Derived.Test.YtmfffbafldbihaaHx0
import Derived.Test.YtmfffbafldbihaaHx1
import Derived.Test.YtmfffbafldbihaaHx6
import Derived.Test.YtmfffbafldbihaaHx10
import Derived.Test.YtmfffbafldbihaaHx11
namespace Go.Proofs.Ytmfffbafldbihaa.H
open Go.RowKit Go.Proofs.YtmfffbafldbihaaW.PrintWords Go.Proofs.YtmfffbafldbihaaW.PrintLast Go.Proofs.YtmfffbafldbihaaW.PrintMore Go.Proofs.YtmfffbafldbihaaW.Sq
attribute [local go_sem] max2_int min2_int max_two min_two max_three min_three max_four min_four
set_option linter.unusedVariables false
set_option linter.unusedSimpArgs false

attribute [local go_sem high] eqA24
mutual
def bottom_Merge.j0 : Nat → Bool → Int → Int → Int → List (S62) → Int → Int → Int → List (S62) → Option (Int × Int × Int × (List (S62)) × Int)
 | 0, _, _, _, _, _, _, _, _, _ => none
 | k + 1, x8, x189000, x189001, x189002, x189003, x190000, x190001, x190002, x190003 => if x8 = true then (some (0, 0, 0, ([] : List (S62)), 1)) else (if (!(x189000 == x190000) || (!(x189001 == x190001))) = true then (some (0, 0, 0, ([] : List (S62)), 9)) else (if x189002 = x190002 then ((bottom_wraps.f k x189000 x189001 x189002 x189003 x190000 x190001 x190002 x190003).bind fun t193 => (if t193 = true then (some (0, 0, 0, ([] : List (S62)), 12)) else (bottom_Merge.l0 k x190003 (x190003.length : Int) 0 x189000 x189001 x189002 x189003))) else (some (0, 0, 0, ([] : List (S62)), 10))))
def bottom_Merge.l0 : Nat → List (S62) → Int → Int → Int → Int → Int → List (S62) → Option (Int × Int × Int × (List (S62)) × Int)
 | 0, _, _, _, _, _, _, _ => none
 | k + 1, x38, x39, x40, x189000, x189001, x189002, x189003 => if x40 < x39 then (if 0 ≤ x40 then (if x40 < (x38.length : Int) then ((bottom_add.f k x189000 x189001 x189002 x189003 ((rd_T62 x38 x40).f0) ((rd_T62 x38 x40).f1) ((rd_T62 x38 x40).f2.f0) ((rd_T62 x38 x40).f2.f1)).bind fun bt196 => (bottom_Merge.l0 k x38 x39 (wrap64 (x40 + 1)) bt196.1 bt196.2.1 bt196.2.2.1 bt196.2.2.2.1)) else (none)) else (none)) else (some (x189000, x189001, x189002, x189003, 0))
end
def bottom_Merge.f (k : Nat) (a0_0 : Int) (a0_1 : Int) (a0_2 : Int) (l0_3 : List (S62)) (a1_0 : Int) (a1_1 : Int) (a1_2 : Int) (l1_3 : List (S62)) : Option (Int × Int × Int × (List (S62)) × Int) := (bottom_Right.f k a0_0 a0_1 a0_2 l0_3).bind fun t191 => (if t191 = true then ((bottom_Right.f k a1_0 a1_1 a1_2 l1_3).bind fun t192 => (bottom_Merge.j0 k (!t192) a0_0 a0_1 a0_2 l0_3 a1_0 a1_1 a1_2 l1_3)) else (bottom_Merge.j0 k true a0_0 a0_1 a0_2 l0_3 a1_0 a1_1 a1_2 l1_3))
theorem bottom_Merge.mono_l : ∀ k, (∀ y0 y1 y2 y3 y4 y5 y6 y7 y8, LeO (bottom_Merge.j0 k y0 y1 y2 y3 y4 y5 y6 y7 y8) (bottom_Merge.j0 (k + 1) y0 y1 y2 y3 y4 y5 y6 y7 y8)) ∧ (∀ y0 y1 y2 y3 y4 y5 y6, LeO (bottom_Merge.l0 k y0 y1 y2 y3 y4 y5 y6) (bottom_Merge.l0 (k + 1) y0 y1 y2 y3 y4 y5 y6))
 | 0 => ⟨fun _ _ _ _ _ _ _ _ _ r h => by simp [bottom_Merge.j0] at h, fun _ _ _ _ _ _ _ r h => by simp [bottom_Merge.l0] at h⟩
 | k + 1 => by
  obtain ⟨ih0, ih1⟩ := bottom_Merge.mono_l k
  refine ⟨?_, ?_⟩
  ·intro y0 y1 y2 y3 y4 y5 y6 y7 y8
   unfold bottom_Merge.j0
   repeat' first
   | (with_reducible exact ih0 _ _ _ _ _ _ _ _ _)
   | (with_reducible exact ih1 _ _ _ _ _ _ _)
   | (with_reducible exact bottom_Right.mono _ _ _ _ _)
   | (with_reducible exact bottom_add.mono _ _ _ _ _ _ _ _ _)
   | (with_reducible exact bottom_wraps.mono _ _ _ _ _ _ _ _ _)
   | (with_reducible exact LeO.refl _)
   | (with_reducible exact LeO.none _)
   | (with_reducible refine LeO.ite ?_ ?_)
   | (with_reducible refine LeO.bind ?_ (fun _ => ?_))
  ·intro y0 y1 y2 y3 y4 y5 y6
   unfold bottom_Merge.l0
   repeat' first
   | (with_reducible exact ih0 _ _ _ _ _ _ _ _ _)
   | (with_reducible exact ih1 _ _ _ _ _ _ _)
   | (with_reducible exact bottom_Right.mono _ _ _ _ _)
   | (with_reducible exact bottom_add.mono _ _ _ _ _ _ _ _ _)
   | (with_reducible exact bottom_wraps.mono _ _ _ _ _ _ _ _ _)
   | (with_reducible exact LeO.refl _)
   | (with_reducible exact LeO.none _)
   | (with_reducible refine LeO.ite ?_ ?_)
   | (with_reducible refine LeO.bind ?_ (fun _ => ?_))
theorem bottom_Merge.mono : ∀ a0 a1 a2 a3 a4 a5 a6 a7 k, LeO (bottom_Merge.f k a0 a1 a2 a3 a4 a5 a6 a7) (bottom_Merge.f (k + 1) a0 a1 a2 a3 a4 a5 a6 a7) := by
 intro a0 a1 a2 a3 a4 a5 a6 a7 k
 obtain ⟨ih0, ih1⟩ := bottom_Merge.mono_l k
 unfold bottom_Merge.f
 repeat' first
   | (with_reducible exact ih0 _ _ _ _ _ _ _ _ _)
   | (with_reducible exact ih1 _ _ _ _ _ _ _)
   | (with_reducible exact bottom_Right.mono _ _ _ _ _)
   | (with_reducible exact bottom_add.mono _ _ _ _ _ _ _ _ _)
   | (with_reducible exact bottom_wraps.mono _ _ _ _ _ _ _ _ _)
   | (with_reducible exact LeO.refl _)
   | (with_reducible exact LeO.none _)
   | (with_reducible refine LeO.ite ?_ ?_)
   | (with_reducible refine LeO.bind ?_ (fun _ => ?_))
set_option maxHeartbeats 8000000 in
set_option maxRecDepth 100000 in
theorem bottom_Merge.calls (k : Nat) (a0_0 : Int) (a0_1 : Int) (a0_2 : Int) (P0_3_ : Nat → Prop) (A0_3 : Option Addr) (c0_3 : Nat) (l0_3 : List (S62)) (a1_0 : Int) (a1_1 : Int) (a1_2 : Int) (A1_3 : Option Addr) (c1_3 : Nat) (l1_3 : List (S62)) (r1 : Int) (r2 : Int) (r3 : Int) (r4 : List (S62)) (r5 : Int) (w : World) (hs0_3 : Kd.V k62 62 w w.heap.size (fun k_ => P0_3_ k_) (.slice A0_3 l0_3.length c0_3) l0_3) (hr1_3 : Kd.C k62 w A1_3 l1_3.length l1_3) (hc1_3 : l1_3.length ≤ c1_3) (h : bottom_Merge.f k a0_0 a0_1 a0_2 l0_3 a1_0 a1_1 a1_2 l1_3 = some (r1, r2, r3, r4, r5)) :
  Calls Try.prog 12 #[.agg #[.int .u64 a0_0, .int .u64 a0_1, .int .i64 a0_2, .slice A0_3 l0_3.length c0_3], .agg #[.int .u64 a1_0, .int .u64 a1_1, .int .i64 a1_2, .slice A1_3 l1_3.length c1_3]] w fun e w' => ∃ v3_ : Value, e = .returned (.tuple #[.agg #[.int .u64 r1, .int .u64 r2, .int .i64 r3, v3_], .int .i64 r5]) ∧ Kd.V k62 62 w' w.heap.size (fun k_ => (P0_3_ k_ ∨ w.heap.size ≤ k_)) v3_ r4 ∧ Below w.heap.size w w' := by
 have hu27 := Try.underlying27
 have hu24 := Try.underlying24
 have hu62 := Try.underlying62
 have HO0_3 := am (show Kd.V k62 62 w w.heap.size (fun k_ => (P0_3_ k_ ∨ w.heap.size ≤ k_)) (.slice A0_3 l0_3.length c0_3) l0_3 from Kd.V_mono hs0_3 (fun k_ hk => .inl hk))
 have HR1_3 := am hr1_3
 have HC1_3 := am hc1_3
 clear hr1_3 hc1_3
 have HB := am (Below.refl w.heap.size w)
 have H : ((bottom_Right.f k a0_0 a0_1 a0_2 l0_3).bind fun t191 => (if t191 = true then ((bottom_Right.f k a1_0 a1_1 a1_2 l1_3).bind fun t192 => (bottom_Merge.j0 k (!t192) a0_0 a0_1 a0_2 l0_3 a1_0 a1_1 a1_2 l1_3)) else (bottom_Merge.j0 k true a0_0 a0_1 a0_2 l0_3 a1_0 a1_1 a1_2 l1_3))) = some (r1, r2, r3, r4, r5) := h
 clear h
 have HC3 := am H
 clear H
 go_enter Try.func12, Try.ntmps12
 go_upto_region 1 with (first | ((with_reducible refine gate_dst (N := 2) rfl ?_); refine be 2 #[.int .u64 a0_0, .int .u64 a0_1, .int .i64 a0_2, .slice A0_3 l0_3.length c0_3] 27 ?_; intro gb188 hg w4 hbox hb; have n0_ := am (Kd.V_below (Kd.V_elderB (pv HO0_3.out) gb188 (Nat.le_of_eq hg.symm)) hb); have n1_ := am (below_step (pb HB) hb); have n2_ := am (hbox); have n3_ := am ((pg hg HB : w.heap.size ≤ gb188)); have n4_ := am ((pg hg HB : w.heap.size ≤ gb188)); clear HO0_3; clear HB; have HO0_3 := n0_; have HB := n1_; have BK188 := n2_; have GW188 := n3_; have GE188 := n4_; clear n0_ n1_ n2_ n3_ n4_; clear hb hbox hg) | ((with_reducible refine gate_dst (N := 3) rfl ?_); refine be 3 #[.int .u64 a1_0, .int .u64 a1_1, .int .i64 a1_2, .slice A1_3 l1_3.length c1_3] 27 ?_; intro gb189 hg w5 hbox hb; have n0_ := am (Kd.V_below (Kd.V_elderB (pv HO0_3.out) gb189 (Nat.le_of_eq hg.symm)) hb); have n1_ := am (blk_below (pk BK188.out) hb); have n2_ := am (below_step (pb HB) hb); have n3_ := am (hbox); have n4_ := am ((pg hg HB : w.heap.size ≤ gb189)); have n5_ := am ((pg hg HB : w.heap.size ≤ gb189)); have n6_ := am ((pl hg (pk BK188.out) : gb188 ≠ gb189)); have n7_ := am ((pl' hg (pk BK188.out) : gb189 ≠ gb188)); clear HO0_3; clear BK188; clear HB; have HO0_3 := n0_; have BK188 := n1_; have HB := n2_; have BK189 := n3_; have GW189 := n4_; have GE189 := n5_; have NB188_189 := n6_; have NB189_188 := n7_; clear n0_ n1_ n2_ n3_ n4_ n5_ n6_ n7_; clear hb hbox hg) | ((with_reducible refine gate_dst (N := 4) rfl ?_); refine be 4 #[.int .u64 0, .int .u64 0, .int .i64 0, .slice none 0 0] 27 ?_; intro gb190 hg w6 hbox hb; have n0_ := am (Kd.V_below (Kd.V_elderB (pv HO0_3.out) gb190 (Nat.le_of_eq hg.symm)) hb); have n1_ := am (blk_below (pk BK188.out) hb); have n2_ := am (blk_below (pk BK189.out) hb); have n3_ := am (below_step (pb HB) hb); have n4_ := am (hbox); have n5_ := am ((pg hg HB : w.heap.size ≤ gb190)); have n6_ := am ((pg hg HB : w.heap.size ≤ gb190)); have n7_ := am ((pl hg (pk BK188.out) : gb188 ≠ gb190)); have n8_ := am ((pl' hg (pk BK188.out) : gb190 ≠ gb188)); have n9_ := am ((pl hg (pk BK189.out) : gb189 ≠ gb190)); have n10_ := am ((pl' hg (pk BK189.out) : gb190 ≠ gb189)); clear HO0_3; clear BK188; clear BK189; clear HB; have HO0_3 := n0_; have BK188 := n1_; have BK189 := n2_; have HB := n3_; have BK190 := n4_; have GW190 := n5_; have GE190 := n6_; have NB188_190 := n7_; have NB190_188 := n8_; have NB189_190 := n9_; have NB190_189 := n10_; clear n0_ n1_ n2_ n3_ n4_ n5_ n6_ n7_ n8_ n9_ n10_; clear hb hbox hg))
 (try simp only [Act.put, List.setIfInBounds_toArray, List.set_cons_zero, List.set_cons_succ])
 go_cut [8] (fun v8 wc => ∃ (kq : Nat) (x8_2 : Bool), v8 = .bool x8_2 ∧ Aside0 (bottom_Merge.j0 kq x8_2 a0_0 a0_1 a0_2 l0_3 a1_0 a1_1 a1_2 l1_3 = some (r1, r2, r3, r4, r5)) ∧ Aside0 (kq ≤ k) ∧ Aside0 (Kd.V k62 62 wc w.heap.size (fun k_ => (P0_3_ k_ ∨ w.heap.size ≤ k_) ∧ k_ ≠ gb188 ∧ k_ ≠ gb189 ∧ k_ ≠ gb190) (.slice A0_3 l0_3.length c0_3) l0_3) ∧ Aside0 (wc.heap[gb188]? = some (.cells #[.int .u64 a0_0, .int .u64 a0_1, .int .i64 a0_2, (.slice A0_3 l0_3.length c0_3)] 27 (0, 0))) ∧ Aside0 (wc.heap[gb189]? = some (.cells #[.int .u64 a1_0, .int .u64 a1_1, .int .i64 a1_2, (.slice A1_3 l1_3.length c1_3)] 27 (0, 0))) ∧ Aside0 (wc.heap[gb190]? = some (.cells #[.int .u64 0, .int .u64 0, .int .i64 0, (.slice none 0 0)] 27 (0, 0))) ∧ Aside0 (Below w.heap.size w wc))
 case first =>
  have H := HC3.out
  clear HC3
  replace H := Option.bind_eq_some_iff.mp H
  obtain ⟨t191, A70, H⟩ := H
  try dsimp only at H
  have A7 := am A70
  clear A70
  by_cases c8 : t191 = true
  ·subst c8
   have H1 : ((bottom_Right.f k a1_0 a1_1 a1_2 l1_3).bind fun t192 => (bottom_Merge.j0 k (!t192) a0_0 a0_1 a0_2 l0_3 a1_0 a1_1 a1_2 l1_3)) = some (r1, r2, r3, r4, r5) := by rw [if_pos rfl] at H; exact H
   clear H
   have H := H1
   clear H1
   replace H := Option.bind_eq_some_iff.mp H
   obtain ⟨t192, A90, H⟩ := H
   try dsimp only at H
   have A9 := am A90
   clear A90
   have H' := am H
   clear H
   have hnb10 := NB188_189.out
   have hnc10 := NB189_188.out
   have hnb11 := NB188_190.out
   have hnc11 := NB190_188.out
   have hcz12_0 := ce BK188 0
   have hcz12_1 := ce BK188 1
   have hcz12_2 := ce BK188 2
   have hcz12_3 := ce BK188 3
   have hfz12_0 := fz BK188 0
   have hfz12_1 := fz BK188 1
   have hfz12_2 := fz BK188 2
   have hfz12_3 := fz BK188 3
   go_wp2_with (first | ((with_reducible refine gate_callee (f := 21) rfl ?_); refine gl (some 10) Try.func21 #[.agg #[.int .u64 a0_0, .int .u64 a0_1, .int .i64 a0_2, .slice A0_3 l0_3.length c0_3]] ?_; (with_reducible refine (bottom_Right.calls k a0_0 a0_1 a0_2 _ _ l0_3 true _ ?side1 ?side2 A7.out).mono ?_); (case side1 => repeat (first | exact (Kd.V_reads' HO0_3.out).2.2 | (with_reducible refine Kd.C_alloc ?_ _) | (with_reducible refine Kd.C_drewN ?_ _) | (with_reducible refine Kd.C_drew ?_))); (case side2 => exact (Kd.V_reads' HO0_3.out).2.1); rintro e w13 ⟨rfl, hb⟩; refine ⟨_, rfl, ?_⟩; replace HO0_3 := am (Kd.V_below (pv HO0_3.out) hb); replace BK188 := am (blk_below (pk BK188.out) hb); replace BK189 := am (blk_below (pk BK189.out) hb); replace BK190 := am (blk_below (pk BK190.out) hb); replace HB := am (below_step (pb HB) hb); (try clear hb); (try clear hb2); (try clear hk); (try clear hi); have hnb14 := NB189_190.out; have hnc14 := NB190_189.out; have hcz15_0 := ce BK189 0; have hcz15_1 := ce BK189 1; have hcz15_2 := ce BK189 2; have hcz15_3 := ce BK189 3; have hfz15_0 := fz BK189 0; have hfz15_1 := fz BK189 1; have hfz15_2 := fz BK189 2; have hfz15_3 := fz BK189 3) | (go_at_call 21; (with_reducible refine (bottom_Right.calls k a1_0 a1_1 a1_2 _ _ l1_3 t192 _ ?side1 ?side2 A9.out).mono ?_); (case side1 => repeat (first | exact (Kd.C_below HR1_3.out HB.out) | (with_reducible refine Kd.C_alloc ?_ _) | (with_reducible refine Kd.C_drewN ?_ _) | (with_reducible refine Kd.C_drew ?_))); (case side2 => exact HC1_3.out); rintro e w16 ⟨rfl, hb⟩; replace HO0_3 := am (Kd.V_below (pv HO0_3.out) hb); replace BK188 := am (blk_below (pk BK188.out) hb); replace BK189 := am (blk_below (pk BK189.out) hb); replace BK190 := am (blk_below (pk BK190.out) hb); replace HB := am (below_step (pb HB) hb); (try clear hb); (try clear hb2); (try clear hk); (try clear hi)))
   go_meet
   case rel => exact ⟨_, (!t192), (by first | rfl | (simp; done) | (simp [*]; done)), H', ⟨by first | omega | exact Nat.le_refl _⟩, ⟨by refine pv ?_; exact Kd.V_mono HO0_3.out (fun _ hk => ⟨hk.1.1.1, ⟨hk.1.1.2, ⟨hk.1.2, hk.2⟩⟩⟩)⟩, ⟨pk BK188.out⟩, ⟨pk BK189.out⟩, ⟨pk BK190.out⟩, ⟨pb HB⟩⟩
  ·replace c8 := Bool.eq_false_iff.mpr c8
   subst c8
   have H1 : (bottom_Merge.j0 k true a0_0 a0_1 a0_2 l0_3 a1_0 a1_1 a1_2 l1_3) = some (r1, r2, r3, r4, r5) := by rw [if_neg (show ¬ (false = true) by decide)] at H; exact H
   clear H
   have H := H1
   clear H1
   have H' := am H
   clear H
   have hnb17 := NB188_189.out
   have hnc17 := NB189_188.out
   have hnb18 := NB188_190.out
   have hnc18 := NB190_188.out
   have hcz19_0 := ce BK188 0
   have hcz19_1 := ce BK188 1
   have hcz19_2 := ce BK188 2
   have hcz19_3 := ce BK188 3
   have hfz19_0 := fz BK188 0
   have hfz19_1 := fz BK188 1
   have hfz19_2 := fz BK188 2
   have hfz19_3 := fz BK188 3
   go_wp2_with (first | ((with_reducible refine gate_callee (f := 21) rfl ?_); refine gl (some 10) Try.func21 #[.agg #[.int .u64 a0_0, .int .u64 a0_1, .int .i64 a0_2, .slice A0_3 l0_3.length c0_3]] ?_; (with_reducible refine (bottom_Right.calls k a0_0 a0_1 a0_2 _ _ l0_3 false _ ?side1 ?side2 A7.out).mono ?_); (case side1 => repeat (first | exact (Kd.V_reads' HO0_3.out).2.2 | (with_reducible refine Kd.C_alloc ?_ _) | (with_reducible refine Kd.C_drewN ?_ _) | (with_reducible refine Kd.C_drew ?_))); (case side2 => exact (Kd.V_reads' HO0_3.out).2.1); rintro e w20 ⟨rfl, hb⟩; refine ⟨_, rfl, ?_⟩; replace HO0_3 := am (Kd.V_below (pv HO0_3.out) hb); replace BK188 := am (blk_below (pk BK188.out) hb); replace BK189 := am (blk_below (pk BK189.out) hb); replace BK190 := am (blk_below (pk BK190.out) hb); replace HB := am (below_step (pb HB) hb); (try clear hb); (try clear hb2); (try clear hk); (try clear hi)))
   go_meet
   case rel => exact ⟨_, (true), (by first | rfl | (simp; done) | (simp [*]; done)), H', ⟨by first | omega | exact Nat.le_refl _⟩, ⟨by refine pv ?_; exact Kd.V_mono HO0_3.out (fun _ hk => ⟨hk.1.1.1, ⟨hk.1.1.2, ⟨hk.1.2, hk.2⟩⟩⟩)⟩, ⟨pk BK188.out⟩, ⟨pk BK189.out⟩, ⟨pk BK190.out⟩, ⟨pb HB⟩⟩
 case rest =>
  clear HC3
  try clear c1
  try clear c2
  try clear p2
  try clear c8
  try clear c10
  try clear c11
  try clear c12
  try clear c14
  try clear c17
  try clear c18
  try clear hcz12_0 hcz12_1 hcz12_2 hcz12_3
  try clear hcz15_0 hcz15_1 hcz15_2 hcz15_3
  try clear hcz19_0 hcz19_1 hcz19_2 hcz19_3
  try clear hfz12_0 hfz12_1 hfz12_2 hfz12_3
  try clear hfz15_0 hfz15_1 hfz15_2 hfz15_3
  try clear hfz19_0 hfz19_1 hfz19_2 hfz19_3
  obtain ⟨kq, x8_2, rfl, HA, HJ2, HO_189003, BK188, BK189, BK190, HB⟩ := hcut
  cases kq with
  | zero => exact absurd HA.out (by simp [bottom_Merge.j0])
  | succ kj2 =>
   have H := HA.out
   clear HA
   simp only [bottom_Merge.j0] at H
   by_cases c21 : x8_2 = true
   ·subst c21
    have H1 : (some (0, 0, 0, ([] : List (S62)), 1)) = some (r1, r2, r3, r4, r5) := by rw [if_pos rfl] at H; exact H
    clear H
    have H := H1
    clear H1
    simp only [Option.some.injEq, Prod.mk.injEq] at H
    obtain ⟨rfl, rfl, rfl, rfl, rfl⟩ := H
    have hnb22 := NB190_188.out
    have hnc22 := NB188_190.out
    have hnb23 := NB190_189.out
    have hnc23 := NB189_190.out
    have hcz24_0 := ce BK190 0
    have hcz24_1 := ce BK190 1
    have hcz24_2 := ce BK190 2
    have hcz24_3 := ce BK190 3
    have hfz24_0 := fz BK190 0
    have hfz24_1 := fz BK190 1
    have hfz24_2 := fz BK190 2
    have hfz24_3 := fz BK190 3
    go_wp2
    refine bodyPost_ret (results_ct rfl _ _ gb190 27 #[.int .u64 0, .int .u64 0, .int .i64 0, .slice none 0 0] (0, 0) _ rfl (by refine pk ?_; refine blk_put (cs := #[.int .u64 0, .int .u64 0, .int .i64 0, .slice none 0 0]) ?_ 3 _ rfl; refine pk ?_; refine blk_put (cs := #[.int .u64 0, .int .u64 0, .int .i64 0, .slice none 0 0]) ?_ 2 _ rfl; refine pk ?_; refine blk_put (cs := #[.int .u64 0, .int .u64 0, .int .i64 0, .slice none 0 0]) ?_ 1 _ rfl; refine pk ?_; refine blk_put (cs := #[.int .u64 0, .int .u64 0, .int .i64 0, .slice none 0 0]) ?_ 0 _ rfl; refine pk ?_; exact BK190.out) Try.underlying27 rfl (by kernel_rfl)) rfl ?_
    exact ⟨_, by first | rfl | (simp [errW_none, errW_some] <;> rfl) | (simp [*, errW_none, errW_some] <;> rfl), Kd.V_nil _ _ _ _ _, pb HB⟩
   ·replace c21 := Bool.eq_false_iff.mpr c21
    subst c21
    have H1 : (if (!(a0_0 == a1_0) || (!(a0_1 == a1_1))) = true then (some (0, 0, 0, ([] : List (S62)), 9)) else (if a0_2 = a1_2 then ((bottom_wraps.f kj2 a0_0 a0_1 a0_2 l0_3 a1_0 a1_1 a1_2 l1_3).bind fun t193 => (if t193 = true then (some (0, 0, 0, ([] : List (S62)), 12)) else (bottom_Merge.l0 kj2 l1_3 (l1_3.length : Int) 0 a0_0 a0_1 a0_2 l0_3))) else (some (0, 0, 0, ([] : List (S62)), 10)))) = some (r1, r2, r3, r4, r5) := by rw [if_neg (show ¬ (false = true) by decide)] at H; exact H
    clear H
    have H := H1
    clear H1
    by_cases c25 : (!(a0_0 == a1_0) || (!(a0_1 == a1_1))) = true
    ·rw [if_pos c25] at H
     have c25b0 : (!(a0_0 == a1_0) || (!(a0_1 == a1_1))) = true := c25
     clear c25
     simp only [Option.some.injEq, Prod.mk.injEq] at H
     obtain ⟨rfl, rfl, rfl, rfl, rfl⟩ := H
     have hnb26 := NB188_189.out
     have hnc26 := NB189_188.out
     have hnb27 := NB188_190.out
     have hnc27 := NB190_188.out
     have hcz28_0 := ce BK188 0
     have hcz28_1 := ce BK188 1
     have hcz28_2 := ce BK188 2
     have hcz28_3 := ce BK188 3
     have hfz28_0 := fz BK188 0
     have hfz28_1 := fz BK188 1
     have hfz28_2 := fz BK188 2
     have hfz28_3 := fz BK188 3
     have hnb29 := NB189_190.out
     have hnc29 := NB190_189.out
     have hcz30_0 := ce BK189 0
     have hcz30_1 := ce BK189 1
     have hcz30_2 := ce BK189 2
     have hcz30_3 := ce BK189 3
     have hfz30_0 := fz BK189 0
     have hfz30_1 := fz BK189 1
     have hfz30_2 := fz BK189 2
     have hfz30_3 := fz BK189 3
     have hcz31_0 := ce BK190 0
     have hcz31_1 := ce BK190 1
     have hcz31_2 := ce BK190 2
     have hcz31_3 := ce BK190 3
     have hfz31_0 := fz BK190 0
     have hfz31_1 := fz BK190 1
     have hfz31_2 := fz BK190 2
     have hfz31_3 := fz BK190 3
     go_wp2
     refine bodyPost_ret (results_ct rfl _ _ gb190 27 #[.int .u64 0, .int .u64 0, .int .i64 0, .slice none 0 0] (0, 0) _ rfl (by refine pk ?_; refine blk_put (cs := #[.int .u64 0, .int .u64 0, .int .i64 0, .slice none 0 0]) ?_ 3 _ rfl; refine pk ?_; refine blk_put (cs := #[.int .u64 0, .int .u64 0, .int .i64 0, .slice none 0 0]) ?_ 2 _ rfl; refine pk ?_; refine blk_put (cs := #[.int .u64 0, .int .u64 0, .int .i64 0, .slice none 0 0]) ?_ 1 _ rfl; refine pk ?_; refine blk_put (cs := #[.int .u64 0, .int .u64 0, .int .i64 0, .slice none 0 0]) ?_ 0 _ rfl; refine pk ?_; exact BK190.out) Try.underlying27 rfl (by kernel_rfl)) rfl ?_
     exact ⟨_, by first | rfl | (simp [errW_none, errW_some] <;> rfl) | (simp [*, errW_none, errW_some] <;> rfl), Kd.V_nil _ _ _ _ _, pb HB⟩
    ·rw [if_neg c25] at H
     have c25b0 : (!(a0_0 == a1_0) || (!(a0_1 == a1_1))) = false := by simpa using c25
     clear c25
     by_cases c32 : a0_2 = a1_2
     ·rw [if_pos c32] at H
      have c32b0 : (a0_2 == a1_2) = true := beq_iff_eq.mpr c32
      have c32b1 : (a0_2 != a1_2) = false := bne_eq_false_iff_eq.mpr c32
      clear c32
      replace H := Option.bind_eq_some_iff.mp H
      obtain ⟨t193, A330, H⟩ := H
      try dsimp only at H
      have A33 := am A330
      clear A330
      by_cases c34 : t193 = true
      ·subst c34
       have H1 : (some (0, 0, 0, ([] : List (S62)), 12)) = some (r1, r2, r3, r4, r5) := by rw [if_pos rfl] at H; exact H
       clear H
       have H := H1
       clear H1
       simp only [Option.some.injEq, Prod.mk.injEq] at H
       obtain ⟨rfl, rfl, rfl, rfl, rfl⟩ := H
       have hnb35 := NB188_189.out
       have hnc35 := NB189_188.out
       have hnb36 := NB188_190.out
       have hnc36 := NB190_188.out
       have hcz37_0 := ce BK188 0
       have hcz37_1 := ce BK188 1
       have hcz37_2 := ce BK188 2
       have hcz37_3 := ce BK188 3
       have hfz37_0 := fz BK188 0
       have hfz37_1 := fz BK188 1
       have hfz37_2 := fz BK188 2
       have hfz37_3 := fz BK188 3
       have hnb38 := NB189_190.out
       have hnc38 := NB190_189.out
       have hcz39_0 := ce BK189 0
       have hcz39_1 := ce BK189 1
       have hcz39_2 := ce BK189 2
       have hcz39_3 := ce BK189 3
       have hfz39_0 := fz BK189 0
       have hfz39_1 := fz BK189 1
       have hfz39_2 := fz BK189 2
       have hfz39_3 := fz BK189 3
       go_wp2_with (first | ((with_reducible refine gate_callee (f := 27) rfl ?_); refine gl (some 35) Try.func27 #[.agg #[.int .u64 a0_0, .int .u64 a0_1, .int .i64 a0_2, .slice A0_3 l0_3.length c0_3], .agg #[.int .u64 a1_0, .int .u64 a1_1, .int .i64 a1_2, .slice A1_3 l1_3.length c1_3]] ?_; (with_reducible refine (bottom_wraps.calls kj2 a0_0 a0_1 a0_2 _ _ l0_3 a1_0 a1_1 a1_2 _ _ l1_3 true _ ?side1 ?side2 ?side3 ?side4 A33.out).mono ?_); (case side1 => repeat (first | exact (Kd.V_reads' HO_189003.out).2.2 | (with_reducible refine Kd.C_alloc ?_ _) | (with_reducible refine Kd.C_drewN ?_ _) | (with_reducible refine Kd.C_drew ?_))); (case side2 => exact (Kd.V_reads' HO_189003.out).2.1); (case side3 => repeat (first | exact (Kd.C_below HR1_3.out HB.out) | (with_reducible refine Kd.C_alloc ?_ _) | (with_reducible refine Kd.C_drewN ?_ _) | (with_reducible refine Kd.C_drew ?_))); (case side4 => exact HC1_3.out); rintro e w40 ⟨rfl, hb⟩; refine ⟨_, rfl, ?_⟩; replace HO_189003 := am (Kd.V_below (pv HO_189003.out) hb); replace BK188 := am (blk_below (pk BK188.out) hb); replace BK189 := am (blk_below (pk BK189.out) hb); replace BK190 := am (blk_below (pk BK190.out) hb); replace HB := am (below_step (pb HB) hb); (try clear hb); (try clear hb2); (try clear hk); (try clear hi); have hcz41_0 := ce BK190 0; have hcz41_1 := ce BK190 1; have hcz41_2 := ce BK190 2; have hcz41_3 := ce BK190 3; have hfz41_0 := fz BK190 0; have hfz41_1 := fz BK190 1; have hfz41_2 := fz BK190 2; have hfz41_3 := fz BK190 3))
       refine bodyPost_ret (results_ct rfl _ _ gb190 27 #[.int .u64 0, .int .u64 0, .int .i64 0, .slice none 0 0] (0, 0) _ rfl (by refine pk ?_; refine blk_put (cs := #[.int .u64 0, .int .u64 0, .int .i64 0, .slice none 0 0]) ?_ 3 _ rfl; refine pk ?_; refine blk_put (cs := #[.int .u64 0, .int .u64 0, .int .i64 0, .slice none 0 0]) ?_ 2 _ rfl; refine pk ?_; refine blk_put (cs := #[.int .u64 0, .int .u64 0, .int .i64 0, .slice none 0 0]) ?_ 1 _ rfl; refine pk ?_; refine blk_put (cs := #[.int .u64 0, .int .u64 0, .int .i64 0, .slice none 0 0]) ?_ 0 _ rfl; refine pk ?_; exact BK190.out) Try.underlying27 rfl (by kernel_rfl)) rfl ?_
       exact ⟨_, by first | rfl | (simp [errW_none, errW_some] <;> rfl) | (simp [*, errW_none, errW_some] <;> rfl), Kd.V_nil _ _ _ _ _, pb HB⟩
      ·replace c34 := Bool.eq_false_iff.mpr c34
       subst c34
       have H1 : (bottom_Merge.l0 kj2 l1_3 (l1_3.length : Int) 0 a0_0 a0_1 a0_2 l0_3) = some (r1, r2, r3, r4, r5) := by rw [if_neg (show ¬ (false = true) by decide)] at H; exact H
       clear H
       have H := H1
       clear H1
       have H' := am H
       clear H
       have hnb42 := NB188_189.out
       have hnc42 := NB189_188.out
       have hnb43 := NB188_190.out
       have hnc43 := NB190_188.out
       have hcz44_0 := ce BK188 0
       have hcz44_1 := ce BK188 1
       have hcz44_2 := ce BK188 2
       have hcz44_3 := ce BK188 3
       have hfz44_0 := fz BK188 0
       have hfz44_1 := fz BK188 1
       have hfz44_2 := fz BK188 2
       have hfz44_3 := fz BK188 3
       have hnb45 := NB189_190.out
       have hnc45 := NB190_189.out
       have hcz46_0 := ce BK189 0
       have hcz46_1 := ce BK189 1
       have hcz46_2 := ce BK189 2
       have hcz46_3 := ce BK189 3
       have hfz46_0 := fz BK189 0
       have hfz46_1 := fz BK189 1
       have hfz46_2 := fz BK189 2
       have hfz46_3 := fz BK189 3
       go_wp2_with (first | ((with_reducible refine gate_callee (f := 27) rfl ?_); refine gl (some 35) Try.func27 #[.agg #[.int .u64 a0_0, .int .u64 a0_1, .int .i64 a0_2, .slice A0_3 l0_3.length c0_3], .agg #[.int .u64 a1_0, .int .u64 a1_1, .int .i64 a1_2, .slice A1_3 l1_3.length c1_3]] ?_; (with_reducible refine (bottom_wraps.calls kj2 a0_0 a0_1 a0_2 _ _ l0_3 a1_0 a1_1 a1_2 _ _ l1_3 false _ ?side1 ?side2 ?side3 ?side4 A33.out).mono ?_); (case side1 => repeat (first | exact (Kd.V_reads' HO_189003.out).2.2 | (with_reducible refine Kd.C_alloc ?_ _) | (with_reducible refine Kd.C_drewN ?_ _) | (with_reducible refine Kd.C_drew ?_))); (case side2 => exact (Kd.V_reads' HO_189003.out).2.1); (case side3 => repeat (first | exact (Kd.C_below HR1_3.out HB.out) | (with_reducible refine Kd.C_alloc ?_ _) | (with_reducible refine Kd.C_drewN ?_ _) | (with_reducible refine Kd.C_drew ?_))); (case side4 => exact HC1_3.out); rintro e w47 ⟨rfl, hb⟩; refine ⟨_, rfl, ?_⟩; replace HO_189003 := am (Kd.V_below (pv HO_189003.out) hb); replace BK188 := am (blk_below (pk BK188.out) hb); replace BK189 := am (blk_below (pk BK189.out) hb); replace BK190 := am (blk_below (pk BK190.out) hb); replace HB := am (below_step (pb HB) hb); (try clear hb); (try clear hb2); (try clear hk); (try clear hi); have hcz48_0 := ce BK189 0; have hcz48_1 := ce BK189 1; have hcz48_2 := ce BK189 2; have hcz48_3 := ce BK189 3; have hfz48_0 := fz BK189 0; have hfz48_1 := fz BK189 1; have hfz48_2 := fz BK189 2; have hfz48_3 := fz BK189 3))
       go_loopg [40] kj2 (fun kq v40 w' => ∃ (x40_2 : Int) (x189000_2 : Int) (x189001_2 : Int) (x189002_2 : Int) (x189003_2 : List (S62)) (u189003 : Value), v40 = .int .i64 x40_2 ∧ Aside0 (bottom_Merge.l0 kq l1_3 (l1_3.length : Int) x40_2 x189000_2 x189001_2 x189002_2 x189003_2 = some (r1, r2, r3, r4, r5)) ∧ Aside0 (kq ≤ kj2) ∧ Aside0 (Kd.V k62 62 w' w.heap.size (fun k_ => (P0_3_ k_ ∨ w.heap.size ≤ k_) ∧ k_ ≠ gb188 ∧ k_ ≠ gb189 ∧ k_ ≠ gb190) u189003 x189003_2) ∧ Aside0 (w'.heap[gb188]? = some (.cells #[.int .u64 x189000_2, .int .u64 x189001_2, .int .i64 x189002_2, u189003] 27 (0, 0))) ∧ Aside0 (w'.heap[gb189]? = some (.cells #[.int .u64 a1_0, .int .u64 a1_1, .int .i64 a1_2, (.slice A1_3 l1_3.length c1_3)] 27 (0, 0))) ∧ Aside0 (w'.heap[gb190]? = some (.cells #[.int .u64 0, .int .u64 0, .int .i64 0, (.slice none 0 0)] 27 (0, 0))) ∧ Aside0 (Below w.heap.size w w'))
       case atStart => exact ⟨(0), (a0_0), (a0_1), (a0_2), (l0_3), (.slice A0_3 l0_3.length c0_3), (by first | rfl | (simp; done) | (simp [*]; done)), H', ⟨Nat.le_refl _⟩, ⟨pv HO_189003.out⟩, ⟨pk BK188.out⟩, ⟨pk BK189.out⟩, ⟨pk BK190.out⟩, ⟨pb HB⟩⟩
       case round =>
        clear H'
        try clear c1
        try clear c2
        try clear p2
        try clear c3
        try clear c4
        try clear c8
        try clear c10
        try clear c11
        try clear c12
        try clear c14
        try clear c17
        try clear c18
        try clear c21
        try clear c22
        try clear c23
        try clear c25
        try clear c25b0
        try clear c26
        try clear c27
        try clear c29
        try clear c32
        try clear c32b0
        try clear c32b1
        try clear c34
        try clear c35
        try clear c36
        try clear c38
        try clear c42
        try clear c43
        try clear c45
        try clear hcz12_0 hcz12_1 hcz12_2 hcz12_3
        try clear hcz15_0 hcz15_1 hcz15_2 hcz15_3
        try clear hcz19_0 hcz19_1 hcz19_2 hcz19_3
        try clear hcz24_0 hcz24_1 hcz24_2 hcz24_3
        try clear hcz28_0 hcz28_1 hcz28_2 hcz28_3
        try clear hcz30_0 hcz30_1 hcz30_2 hcz30_3
        try clear hcz31_0 hcz31_1 hcz31_2 hcz31_3
        try clear hcz37_0 hcz37_1 hcz37_2 hcz37_3
        try clear hcz39_0 hcz39_1 hcz39_2 hcz39_3
        try clear hcz41_0 hcz41_1 hcz41_2 hcz41_3
        try clear hcz44_0 hcz44_1 hcz44_2 hcz44_3
        try clear hcz46_0 hcz46_1 hcz46_2 hcz46_3
        try clear hcz48_0 hcz48_1 hcz48_2 hcz48_3
        try clear hfz12_0 hfz12_1 hfz12_2 hfz12_3
        try clear hfz15_0 hfz15_1 hfz15_2 hfz15_3
        try clear hfz19_0 hfz19_1 hfz19_2 hfz19_3
        try clear hfz24_0 hfz24_1 hfz24_2 hfz24_3
        try clear hfz28_0 hfz28_1 hfz28_2 hfz28_3
        try clear hfz30_0 hfz30_1 hfz30_2 hfz30_3
        try clear hfz31_0 hfz31_1 hfz31_2 hfz31_3
        try clear hfz37_0 hfz37_1 hfz37_2 hfz37_3
        try clear hfz39_0 hfz39_1 hfz39_2 hfz39_3
        try clear hfz41_0 hfz41_1 hfz41_2 hfz41_3
        try clear hfz44_0 hfz44_1 hfz44_2 hfz44_3
        try clear hfz46_0 hfz46_1 hfz46_2 hfz46_3
        try clear hfz48_0 hfz48_1 hfz48_2 hfz48_3
        try clear p2
        obtain ⟨x40_2, x189000_2, x189001_2, x189002_2, x189003_2, u189003, rfl, HA, HK2, HO_189003, BK188, BK189, BK190, HB⟩ := hrel
        cases gk with
        | zero => exact absurd HA.out (by simp [bottom_Merge.l0])
        | succ k2 =>
         have H := HA.out
         clear HA
         simp only [bottom_Merge.l0] at H
         by_cases c49 : x40_2 < (l1_3.length : Int)
         ·rw [if_pos c49] at H
          have c49b0 : decide (x40_2 < (l1_3.length : Int)) = true := decide_eq_true c49
          clear c49
          by_cases c50 : 0 ≤ x40_2
          ·rw [if_pos c50] at H
           have c50b0 : decide (0 ≤ x40_2) = true := decide_eq_true c50
           clear c50
           by_cases c51 : x40_2 < (l1_3.length : Int)
           ·rw [if_pos c51] at H
            have c51b0 : decide (x40_2 < (l1_3.length : Int)) = true := decide_eq_true c51
            clear c51
            replace H := Option.bind_eq_some_iff.mp H
            obtain ⟨⟨t196, t197, t198, t199, t202⟩, A520, H⟩ := H
            try dsimp only at H
            have A52 := am A520
            clear A520
            have H' := am H
            clear H
            have p194 : 0 ≤ (x40_2 : Int) := of_decide_eq_true (by first | (with_reducible assumption) | assumption)
            have q194 : x40_2 < (l1_3.length : Int) := of_decide_eq_true (by first | (with_reducible assumption) | assumption)
            obtain ⟨ad194, e194, hx194_0, hx194_1, hx194_2, hx194_3⟩ := at_T62 HR1_3.out x40_2 p194 q194
            cases e194
            replace hx194_0 := (HB.out.cell (World.block_lt_of_cell? w _ hx194_0)).trans hx194_0
            replace hx194_1 := (HB.out.cell (World.block_lt_of_cell? w _ hx194_1)).trans hx194_1
            replace hx194_2 := (HB.out.cell (World.block_lt_of_cell? w _ hx194_2)).trans hx194_2
            replace hx194_3 := (HB.out.cell (World.block_lt_of_cell? w _ hx194_3)).trans hx194_3
            replace p194 := eq_true p194
            replace q194 := eq_true q194
            go_wp2_with (first | ((with_reducible refine gate_dst (N := 7) rfl ?_); refine be 7 #[.string (⟨#[]⟩ : ByteArray), .int .u64 0, .int .u64 0, .int .u64 0] 62 ?_; intro gb195 hg w53 hbox hb; have n0_ := am (Kd.V_below (Kd.V_elderB (pv HO_189003.out) gb195 (Nat.le_of_eq hg.symm)) hb); have n1_ := am (blk_below (pk BK188.out) hb); have n2_ := am (blk_below (pk BK189.out) hb); have n3_ := am (blk_below (pk BK190.out) hb); have n4_ := am (below_step (pb HB) hb); have n5_ := am (hbox); have n6_ := am ((pg hg HB : w.heap.size ≤ gb195)); have n7_ := am ((pg hg HB : w.heap.size ≤ gb195)); have n8_ := am ((pl hg (pk BK188.out) : gb188 ≠ gb195)); have n9_ := am ((pl' hg (pk BK188.out) : gb195 ≠ gb188)); have n10_ := am ((pl hg (pk BK189.out) : gb189 ≠ gb195)); have n11_ := am ((pl' hg (pk BK189.out) : gb195 ≠ gb189)); have n12_ := am ((pl hg (pk BK190.out) : gb190 ≠ gb195)); have n13_ := am ((pl' hg (pk BK190.out) : gb195 ≠ gb190)); clear HO_189003; clear BK188; clear BK189; clear BK190; clear HB; have HO_189003 := n0_; have BK188 := n1_; have BK189 := n2_; have BK190 := n3_; have HB := n4_; have BK195 := n5_; have GW195 := n6_; have GE195 := n7_; have NB188_195 := n8_; have NB195_188 := n9_; have NB189_195 := n10_; have NB195_189 := n11_; have NB190_195 := n12_; have NB195_190 := n13_; clear n0_ n1_ n2_ n3_ n4_ n5_ n6_ n7_ n8_ n9_ n10_ n11_ n12_ n13_; clear hb hbox hg; have hnb54 := NB195_188.out; have hnc54 := NB188_195.out; have hnb55 := NB195_189.out; have hnc55 := NB189_195.out; have hnb56 := NB195_190.out; have hnc56 := NB190_195.out; have hcz57_0 := ce BK195 0; have hcz57_1 := ce BK195 1; have hcz57_2 := ce BK195 2; have hcz57_3 := ce BK195 3; have hfz57_0 := fz BK195 0; have hfz57_1 := fz BK195 1; have hfz57_2 := fz BK195 2; have hfz57_3 := fz BK195 3) | ((with_reducible refine gate_store (t := 62) (p := 7) rfl ?_); refine store_event (t := 62) (p := 7) (v := ?vo_w58) (w1 := ((((w53.setCell ⟨gb195, 0, none⟩ (.string ((rd_T62 l1_3 x40_2).f0))).setCell ⟨gb195, 1, none⟩ (.int .u64 ((rd_T62 l1_3 x40_2).f1))).setCell ⟨gb195, 2, none⟩ (.int .u64 ((rd_T62 l1_3 x40_2).f2.f0))).setCell ⟨gb195, 3, none⟩ (.int .u64 ((rd_T62 l1_3 x40_2).f2.f1)))) ?hg ?ho ?hn ?hr ?_; (case ho => rfl); (case hg => rfl); (case hn => rfl); (case hr => first | (go_simp; done) | (go_simp; rfl)); intro w58 hw; replace HO_189003 : Aside0 (Kd.V k62 62 w58 w.heap.size (fun k_ => (P0_3_ k_ ∨ w.heap.size ≤ k_) ∧ k_ ≠ gb188 ∧ k_ ≠ gb189 ∧ k_ ≠ gb190 ∧ k_ ≠ gb195) u189003 x189003_2) := ⟨(by rw [hw]; exact (pv (Kd.V_mono (Kd.V_far (p := ⟨gb195, 3, none⟩) (Kd.V_far (p := ⟨gb195, 2, none⟩) (Kd.V_far (p := ⟨gb195, 1, none⟩) (Kd.V_far (p := ⟨gb195, 0, none⟩) (Kd.V_mono HO_189003.out (fun k_ hk => (⟨hk, hk.2⟩ : _ ∧ k_ ≠ gb195))) (fun _ hk => hk.2) (.string ((rd_T62 l1_3 x40_2).f0))) (fun _ hk => hk.2) (.int .u64 ((rd_T62 l1_3 x40_2).f1))) (fun _ hk => hk.2) (.int .u64 ((rd_T62 l1_3 x40_2).f2.f0))) (fun _ hk => hk.2) (.int .u64 ((rd_T62 l1_3 x40_2).f2.f1))) (fun _ hk => ⟨hk.1.1.1, ⟨hk.1.1.2.1, ⟨hk.1.1.2.2.1, ⟨hk.1.1.2.2.2, hk.1.2⟩⟩⟩⟩))))⟩; replace BK188 : Aside0 (w58.heap[gb188]? = some (.cells #[.int .u64 x189000_2, .int .u64 x189001_2, .int .i64 x189002_2, u189003] 27 (0, 0))) := ⟨(by rw [hw]; exact (by refine pk ?_; refine blk_far ?_ NB188_195.out _; refine pk ?_; refine blk_far ?_ NB188_195.out _; refine pk ?_; refine blk_far ?_ NB188_195.out _; refine pk ?_; refine blk_far ?_ NB188_195.out _; refine pk ?_; exact BK188.out))⟩; replace BK189 : Aside0 (w58.heap[gb189]? = some (.cells #[.int .u64 a1_0, .int .u64 a1_1, .int .i64 a1_2, .slice (some ad194) l1_3.length c1_3] 27 (0, 0))) := ⟨(by rw [hw]; exact (by refine pk ?_; refine blk_far ?_ NB189_195.out _; refine pk ?_; refine blk_far ?_ NB189_195.out _; refine pk ?_; refine blk_far ?_ NB189_195.out _; refine pk ?_; refine blk_far ?_ NB189_195.out _; refine pk ?_; exact BK189.out))⟩; replace BK190 : Aside0 (w58.heap[gb190]? = some (.cells #[.int .u64 0, .int .u64 0, .int .i64 0, .slice none 0 0] 27 (0, 0))) := ⟨(by rw [hw]; exact (by refine pk ?_; refine blk_far ?_ NB190_195.out _; refine pk ?_; refine blk_far ?_ NB190_195.out _; refine pk ?_; refine blk_far ?_ NB190_195.out _; refine pk ?_; refine blk_far ?_ NB190_195.out _; refine pk ?_; exact BK190.out))⟩; replace BK195 : Aside0 (w58.heap[gb195]? = some (.cells #[.string ((rd_T62 l1_3 x40_2).f0), .int .u64 ((rd_T62 l1_3 x40_2).f1), .int .u64 ((rd_T62 l1_3 x40_2).f2.f0), .int .u64 ((rd_T62 l1_3 x40_2).f2.f1)] 62 (0, 0))) := ⟨(by rw [hw]; exact (by refine pk ?_; refine blk_put (cs := #[.string ((rd_T62 l1_3 x40_2).f0), .int .u64 ((rd_T62 l1_3 x40_2).f1), .int .u64 ((rd_T62 l1_3 x40_2).f2.f0), .int .u64 0]) ?_ 3 _ rfl; refine pk ?_; refine blk_put (cs := #[.string ((rd_T62 l1_3 x40_2).f0), .int .u64 ((rd_T62 l1_3 x40_2).f1), .int .u64 0, .int .u64 0]) ?_ 2 _ rfl; refine pk ?_; refine blk_put (cs := #[.string ((rd_T62 l1_3 x40_2).f0), .int .u64 0, .int .u64 0, .int .u64 0]) ?_ 1 _ rfl; refine pk ?_; refine blk_put (cs := #[.string (⟨#[]⟩ : ByteArray), .int .u64 0, .int .u64 0, .int .u64 0]) ?_ 0 _ rfl; refine pk ?_; exact BK195.out))⟩; replace HB : Aside0 (Below w.heap.size w w58) := ⟨(by rw [hw]; exact (pb HB))⟩; clear hw; have hnb59 := NB188_189.out; have hnc59 := NB189_188.out; have hnb60 := NB188_190.out; have hnc60 := NB190_188.out; have hcz61_0 := ce BK188 0; have hcz61_1 := ce BK188 1; have hcz61_2 := ce BK188 2; have hcz61_3 := ce BK188 3; have hfz61_0 := fz BK188 0; have hfz61_1 := fz BK188 1; have hfz61_2 := fz BK188 2; have hfz61_3 := fz BK188 3; have hcz62_0 : w58.cell? ⟨gb195, 0, none⟩ = some (.string ((rd_T62 l1_3 x40_2).f0)) := ce BK195 0; have hcz62_1 : w58.cell? ⟨gb195, 1, none⟩ = some (.int .u64 ((rd_T62 l1_3 x40_2).f1)) := ce BK195 1; have hcz62_2 : w58.cell? ⟨gb195, 2, none⟩ = some (.int .u64 ((rd_T62 l1_3 x40_2).f2.f0)) := ce BK195 2; have hcz62_3 : w58.cell? ⟨gb195, 3, none⟩ = some (.int .u64 ((rd_T62 l1_3 x40_2).f2.f1)) := ce BK195 3; have hfz62_0 := fz BK195 0; have hfz62_1 := fz BK195 1; have hfz62_2 := fz BK195 2; have hfz62_3 := fz BK195 3; obtain ⟨Ao63, co63, eo63⟩ := Kd.V_slice HO_189003.out; subst eo63) | ((with_reducible refine gate_callee (f := 28) rfl ?_); refine gl (some 47) Try.func28 #[.agg #[.int .u64 x189000_2, .int .u64 x189001_2, .int .i64 x189002_2, .slice Ao63 x189003_2.length co63], .agg #[.string ((rd_T62 l1_3 x40_2).f0), .int .u64 ((rd_T62 l1_3 x40_2).f1), .int .u64 ((rd_T62 l1_3 x40_2).f2.f0), .int .u64 ((rd_T62 l1_3 x40_2).f2.f1)]] ?_; (with_reducible refine (bottom_add.calls k2 x189000_2 x189001_2 x189002_2 (fun k_ => ((P0_3_ k_ ∨ w.heap.size ≤ k_) ∧ (k_ ≠ gb188 ∧ (k_ ≠ gb189 ∧ (k_ ≠ gb190 ∧ k_ ≠ gb195))))) _ _ x189003_2 ((rd_T62 l1_3 x40_2).f0) ((rd_T62 l1_3 x40_2).f1) ((rd_T62 l1_3 x40_2).f2.f0) ((rd_T62 l1_3 x40_2).f2.f1) t196 t197 t198 t199 t202 _ ?side1 A52.out).mono ?_); (case side1 => exact HO_189003.out); rintro e w64 ⟨v200, rfl, ho0, hb⟩; refine ⟨_, rfl, ?_⟩; replace HO_189003 := am (Kd.V_below (pv HO_189003.out) hb); have HO201 := am (Kd.V_lower (Kd.V_mono (ok' := fun k_ => (P0_3_ k_ ∨ w.heap.size ≤ k_) ∧ k_ ≠ gb188 ∧ k_ ≠ gb189 ∧ k_ ≠ gb190 ∧ k_ ≠ gb195) ho0 (fun k_ hk_ => ⟨Or.elim hk_ (fun hs_ => hs_.1) (fun hn_ => (.inr (Nat.le_trans (below_size (pb HB)) hn_))), Or.elim hk_ (fun hs_ => hs_.2.1) (fun hn_ => (Kd.freshB (g := gb188) (o := .cells #[.int .u64 x189000_2, .int .u64 x189001_2, .int .i64 x189002_2, .slice Ao63 x189003_2.length co63] 27 (0, 0)) (pk BK188.out) k_ hn_)), Or.elim hk_ (fun hs_ => hs_.2.2.1) (fun hn_ => (Kd.freshB (g := gb189) (o := .cells #[.int .u64 a1_0, .int .u64 a1_1, .int .i64 a1_2, .slice (some ad194) l1_3.length c1_3] 27 (0, 0)) (pk BK189.out) k_ hn_)), Or.elim hk_ (fun hs_ => hs_.2.2.2.1) (fun hn_ => (Kd.freshB (g := gb190) (o := .cells #[.int .u64 0, .int .u64 0, .int .i64 0, .slice none 0 0] 27 (0, 0)) (pk BK190.out) k_ hn_)), Or.elim hk_ (fun hs_ => hs_.2.2.2.2) (fun hn_ => (Kd.freshB (g := gb195) (o := .cells #[.string ((rd_T62 l1_3 x40_2).f0), .int .u64 ((rd_T62 l1_3 x40_2).f1), .int .u64 ((rd_T62 l1_3 x40_2).f2.f0), .int .u64 ((rd_T62 l1_3 x40_2).f2.f1)] 62 (0, 0)) (pk BK195.out) k_ hn_))⟩)) (below_size (pb HB))); replace BK188 := am (blk_below (pk BK188.out) hb); replace BK189 := am (blk_below (pk BK189.out) hb); replace BK190 := am (blk_below (pk BK190.out) hb); replace BK195 := am (blk_below (pk BK195.out) hb); replace HB := am (below_step (pb HB) hb); (try clear hb); (try clear hb2); (try clear hk); (try clear hi); (try clear ho0); have hcz65_0 := ce BK188 0; have hcz65_1 := ce BK188 1; have hcz65_2 := ce BK188 2; have hcz65_3 := ce BK188 3; have hfz65_0 := fz BK188 0; have hfz65_1 := fz BK188 1; have hfz65_2 := fz BK188 2; have hfz65_3 := fz BK188 3; obtain ⟨Ao66, co66, eo66⟩ := Kd.V_slice HO201.out; subst eo66))
            go_roundg k2
            case measure => have := HJ2.out; have := HK2.out; omega
            case rel => exact ⟨(wrap64 (x40_2 + 1)), (t196), (t197), (t198), (t199), (.slice Ao66 t199.length co66), (by first | rfl | (simp; done) | (simp [*]; done)), H', ⟨by have := HJ2.out; have := HK2.out; omega⟩, ⟨by refine pv ?_; exact Kd.V_mono (Kd.V_far (p := ⟨gb188, 3, none⟩) (Kd.V_far (p := ⟨gb188, 2, none⟩) (Kd.V_far (p := ⟨gb188, 1, none⟩) (Kd.V_far (p := ⟨gb188, 0, none⟩) (Kd.V_mono HO201.out (fun k_ hk => (⟨hk, hk.2.1⟩ : _ ∧ k_ ≠ gb188))) (fun _ hk => hk.2) (.int .u64 t196)) (fun _ hk => hk.2) (.int .u64 t197)) (fun _ hk => hk.2) (.int .i64 t198)) (fun _ hk => hk.2) (.slice Ao66 t199.length co66)) (fun _ hk => ⟨hk.1.1, ⟨hk.1.2.1, ⟨hk.1.2.2.1, hk.1.2.2.2.1⟩⟩⟩)⟩, ⟨by refine pk ?_; refine blk_put (cs := #[.int .u64 t196, .int .u64 t197, .int .i64 t198, .slice Ao63 x189003_2.length co63]) ?_ 3 _ rfl; refine pk ?_; refine blk_put (cs := #[.int .u64 t196, .int .u64 t197, .int .i64 x189002_2, .slice Ao63 x189003_2.length co63]) ?_ 2 _ rfl; refine pk ?_; refine blk_put (cs := #[.int .u64 t196, .int .u64 x189001_2, .int .i64 x189002_2, .slice Ao63 x189003_2.length co63]) ?_ 1 _ rfl; refine pk ?_; refine blk_put (cs := #[.int .u64 x189000_2, .int .u64 x189001_2, .int .i64 x189002_2, .slice Ao63 x189003_2.length co63]) ?_ 0 _ rfl; refine pk ?_; exact BK188.out⟩, ⟨by refine pk ?_; refine blk_far ?_ NB189_188.out _; refine pk ?_; refine blk_far ?_ NB189_188.out _; refine pk ?_; refine blk_far ?_ NB189_188.out _; refine pk ?_; refine blk_far ?_ NB189_188.out _; refine pk ?_; exact BK189.out⟩, ⟨by refine pk ?_; refine blk_far ?_ NB190_188.out _; refine pk ?_; refine blk_far ?_ NB190_188.out _; refine pk ?_; refine blk_far ?_ NB190_188.out _; refine pk ?_; refine blk_far ?_ NB190_188.out _; refine pk ?_; exact BK190.out⟩, ⟨pb HB⟩⟩
           ·rw [if_neg c51] at H
            exact absurd H (by simp)
          ·rw [if_neg c50] at H
           exact absurd H (by simp)
         ·rw [if_neg c49] at H
          have c49b0 : decide (x40_2 < (l1_3.length : Int)) = false := decide_eq_false c49
          clear c49
          simp only [Option.some.injEq, Prod.mk.injEq] at H
          obtain ⟨rfl, rfl, rfl, rfl, rfl⟩ := H
          have hnb67 := NB188_189.out
          have hnc67 := NB189_188.out
          have hnb68 := NB188_190.out
          have hnc68 := NB190_188.out
          have hcz69_0 := ce BK188 0
          have hcz69_1 := ce BK188 1
          have hcz69_2 := ce BK188 2
          have hcz69_3 := ce BK188 3
          have hfz69_0 := fz BK188 0
          have hfz69_1 := fz BK188 1
          have hfz69_2 := fz BK188 2
          have hfz69_3 := fz BK188 3
          have hnb70 := NB190_189.out
          have hnc70 := NB189_190.out
          have hcz71_0 := ce BK190 0
          have hcz71_1 := ce BK190 1
          have hcz71_2 := ce BK190 2
          have hcz71_3 := ce BK190 3
          have hfz71_0 := fz BK190 0
          have hfz71_1 := fz BK190 1
          have hfz71_2 := fz BK190 2
          have hfz71_3 := fz BK190 3
          obtain ⟨Ao72, co72, eo72⟩ := Kd.V_slice HO_189003.out
          subst eo72
          go_wp2
          refine bodyPost_ret (results_ct rfl _ _ gb190 27 #[.int .u64 x189000_2, .int .u64 x189001_2, .int .i64 x189002_2, .slice Ao72 x189003_2.length co72] (0, 0) _ rfl (by refine pk ?_; refine blk_put (cs := #[.int .u64 x189000_2, .int .u64 x189001_2, .int .i64 x189002_2, .slice none 0 0]) ?_ 3 _ rfl; refine pk ?_; refine blk_put (cs := #[.int .u64 x189000_2, .int .u64 x189001_2, .int .i64 0, .slice none 0 0]) ?_ 2 _ rfl; refine pk ?_; refine blk_put (cs := #[.int .u64 x189000_2, .int .u64 0, .int .i64 0, .slice none 0 0]) ?_ 1 _ rfl; refine pk ?_; refine blk_put (cs := #[.int .u64 0, .int .u64 0, .int .i64 0, .slice none 0 0]) ?_ 0 _ rfl; refine pk ?_; exact BK190.out) Try.underlying27 rfl (by kernel_rfl)) rfl ?_
          exact ⟨_, by first | rfl | (simp [errW_none, errW_some] <;> rfl) | (simp [*, errW_none, errW_some] <;> rfl), by refine pv ?_; exact Kd.V_mono (Kd.V_far (p := ⟨gb190, 3, none⟩) (Kd.V_far (p := ⟨gb190, 2, none⟩) (Kd.V_far (p := ⟨gb190, 1, none⟩) (Kd.V_far (p := ⟨gb190, 0, none⟩) (Kd.V_mono HO_189003.out (fun k_ hk => (⟨hk, hk.2.2.2⟩ : _ ∧ k_ ≠ gb190))) (fun _ hk => hk.2) (.int .u64 x189000_2)) (fun _ hk => hk.2) (.int .u64 x189001_2)) (fun _ hk => hk.2) (.int .i64 x189002_2)) (fun _ hk => hk.2) (.slice Ao72 x189003_2.length co72)) (fun _ hk => hk.1.1), pb HB⟩
     ·rw [if_neg c32] at H
      have c32b0 : (a0_2 == a1_2) = false := beq_eq_false_iff_ne.mpr c32
      have c32b1 : (a0_2 != a1_2) = true := bne_iff_ne.mpr c32
      simp only [Option.some.injEq, Prod.mk.injEq] at H
      obtain ⟨rfl, rfl, rfl, rfl, rfl⟩ := H
      have hnb73 := NB188_189.out
      have hnc73 := NB189_188.out
      have hnb74 := NB188_190.out
      have hnc74 := NB190_188.out
      have hcz75_0 := ce BK188 0
      have hcz75_1 := ce BK188 1
      have hcz75_2 := ce BK188 2
      have hcz75_3 := ce BK188 3
      have hfz75_0 := fz BK188 0
      have hfz75_1 := fz BK188 1
      have hfz75_2 := fz BK188 2
      have hfz75_3 := fz BK188 3
      have hnb76 := NB189_190.out
      have hnc76 := NB190_189.out
      have hcz77_0 := ce BK189 0
      have hcz77_1 := ce BK189 1
      have hcz77_2 := ce BK189 2
      have hcz77_3 := ce BK189 3
      have hfz77_0 := fz BK189 0
      have hfz77_1 := fz BK189 1
      have hfz77_2 := fz BK189 2
      have hfz77_3 := fz BK189 3
      have hcz78_0 := ce BK190 0
      have hcz78_1 := ce BK190 1
      have hcz78_2 := ce BK190 2
      have hcz78_3 := ce BK190 3
      have hfz78_0 := fz BK190 0
      have hfz78_1 := fz BK190 1
      have hfz78_2 := fz BK190 2
      have hfz78_3 := fz BK190 3
      go_wp2
      refine bodyPost_ret (results_ct rfl _ _ gb190 27 #[.int .u64 0, .int .u64 0, .int .i64 0, .slice none 0 0] (0, 0) _ rfl (by refine pk ?_; refine blk_put (cs := #[.int .u64 0, .int .u64 0, .int .i64 0, .slice none 0 0]) ?_ 3 _ rfl; refine pk ?_; refine blk_put (cs := #[.int .u64 0, .int .u64 0, .int .i64 0, .slice none 0 0]) ?_ 2 _ rfl; refine pk ?_; refine blk_put (cs := #[.int .u64 0, .int .u64 0, .int .i64 0, .slice none 0 0]) ?_ 1 _ rfl; refine pk ?_; refine blk_put (cs := #[.int .u64 0, .int .u64 0, .int .i64 0, .slice none 0 0]) ?_ 0 _ rfl; refine pk ?_; exact BK190.out) Try.underlying27 rfl (by kernel_rfl)) rfl ?_
      exact ⟨_, by first | rfl | (simp [errW_none, errW_some] <;> rfl) | (simp [*, errW_none, errW_some] <;> rfl), Kd.V_nil _ _ _ _ _, pb HB⟩
def bottom_New.f (a0_0 : Int) (a0_1 : Int) (a1 : Int) : Option (Int × Int × Int × (List (S62)) × Int) := if a1 < 1 then (some (0, 0, 0, ([] : List (S62)), 1)) else (if a1 > 1024 then (some (0, 0, 0, ([] : List (S62)), 1)) else (some (a0_0, a0_1, a1, ([] : List (S62)), 0)))
set_option maxHeartbeats 8000000 in
set_option maxRecDepth 100000 in
theorem bottom_New.calls (a0_0 : Int) (a0_1 : Int) (a1 : Int) (r1 : Int) (r2 : Int) (r3 : Int) (r4 : List (S62)) (r5 : Int) (w : World) (h : bottom_New.f a0_0 a0_1 a1 = some (r1, r2, r3, r4, r5)) :
  Calls Try.prog 16 #[.agg #[.int .u64 a0_0, .int .u64 a0_1], .int .i64 a1] w fun e w' => ∃ v3_ : Value, e = .returned (.tuple #[.agg #[.int .u64 r1, .int .u64 r2, .int .i64 r3, v3_], .int .i64 r5]) ∧ Kd.V k62 62 w' w.heap.size (fun k_ => (w.heap.size ≤ k_)) v3_ r4 ∧ Below w.heap.size w w' := by
 have hu24 := Try.underlying24
 have hu27 := Try.underlying27
 have HB := am (Below.refl w.heap.size w)
 have H : (if a1 < 1 then (some (0, 0, 0, ([] : List (S62)), 1)) else (if a1 > 1024 then (some (0, 0, 0, ([] : List (S62)), 1)) else (some (a0_0, a0_1, a1, ([] : List (S62)), 0)))) = some (r1, r2, r3, r4, r5) := h
 clear h
 by_cases c3 : a1 < 1
 ·rw [if_pos c3] at H
  have c3b0 : decide (a1 < 1) = true := decide_eq_true c3
  clear c3
  simp only [Option.some.injEq, Prod.mk.injEq] at H
  obtain ⟨rfl, rfl, rfl, rfl, rfl⟩ := H
  go_enter Try.func16, Try.ntmps16
  go_wp2_with (first | ((with_reducible refine gate_dst (N := 2) rfl ?_); refine be 2 #[.int .u64 a0_0, .int .u64 a0_1] 24 ?_; intro gb203 hg w4 hbox hb; have n0_ := am (below_step (pb HB) hb); have n1_ := am (hbox); have n2_ := am ((pg hg HB : w.heap.size ≤ gb203)); have n3_ := am ((pg hg HB : w.heap.size ≤ gb203)); clear HB; have HB := n0_; have BK203 := n1_; have GW203 := n2_; have GE203 := n3_; clear n0_ n1_ n2_ n3_; clear hb hbox hg) | ((with_reducible refine gate_dst (N := 4) rfl ?_); refine be 4 #[.int .u64 0, .int .u64 0, .int .i64 0, .slice none 0 0] 27 ?_; intro gb204 hg w5 hbox hb; have n0_ := am (blk_below (pk BK203.out) hb); have n1_ := am (below_step (pb HB) hb); have n2_ := am (hbox); have n3_ := am ((pg hg HB : w.heap.size ≤ gb204)); have n4_ := am ((pg hg HB : w.heap.size ≤ gb204)); have n5_ := am ((pl hg (pk BK203.out) : gb203 ≠ gb204)); have n6_ := am ((pl' hg (pk BK203.out) : gb204 ≠ gb203)); clear BK203; clear HB; have BK203 := n0_; have HB := n1_; have BK204 := n2_; have GW204 := n3_; have GE204 := n4_; have NB203_204 := n5_; have NB204_203 := n6_; clear n0_ n1_ n2_ n3_ n4_ n5_ n6_; clear hb hbox hg; have hnb6 := NB204_203.out; have hnc6 := NB203_204.out; have hcz7_0 := ce BK204 0; have hcz7_1 := ce BK204 1; have hcz7_2 := ce BK204 2; have hcz7_3 := ce BK204 3; have hfz7_0 := fz BK204 0; have hfz7_1 := fz BK204 1; have hfz7_2 := fz BK204 2; have hfz7_3 := fz BK204 3))
  refine bodyPost_ret (results_ct rfl _ _ gb204 27 #[.int .u64 0, .int .u64 0, .int .i64 0, .slice none 0 0] (0, 0) _ rfl (by refine pk ?_; refine blk_put (cs := #[.int .u64 0, .int .u64 0, .int .i64 0, .slice none 0 0]) ?_ 3 _ rfl; refine pk ?_; refine blk_put (cs := #[.int .u64 0, .int .u64 0, .int .i64 0, .slice none 0 0]) ?_ 2 _ rfl; refine pk ?_; refine blk_put (cs := #[.int .u64 0, .int .u64 0, .int .i64 0, .slice none 0 0]) ?_ 1 _ rfl; refine pk ?_; refine blk_put (cs := #[.int .u64 0, .int .u64 0, .int .i64 0, .slice none 0 0]) ?_ 0 _ rfl; refine pk ?_; exact BK204.out) Try.underlying27 rfl (by kernel_rfl)) rfl ?_
  exact ⟨_, by first | rfl | (simp [errW_none, errW_some] <;> rfl) | (simp [*, errW_none, errW_some] <;> rfl), Kd.V_nil _ _ _ _ _, pb HB⟩
 rw [if_neg c3] at H
 have c3b0 : decide (a1 < 1) = false := decide_eq_false c3
 clear c3
 by_cases c8 : a1 > 1024
 ·rw [if_pos c8] at H
  have c8b0 : decide (1024 < a1) = true := decide_eq_true c8
  clear c8
  simp only [Option.some.injEq, Prod.mk.injEq] at H
  obtain ⟨rfl, rfl, rfl, rfl, rfl⟩ := H
  go_enter Try.func16, Try.ntmps16
  go_wp2_with (first | ((with_reducible refine gate_dst (N := 2) rfl ?_); refine be 2 #[.int .u64 a0_0, .int .u64 a0_1] 24 ?_; intro gb203 hg w9 hbox hb; have n0_ := am (below_step (pb HB) hb); have n1_ := am (hbox); have n2_ := am ((pg hg HB : w.heap.size ≤ gb203)); have n3_ := am ((pg hg HB : w.heap.size ≤ gb203)); clear HB; have HB := n0_; have BK203 := n1_; have GW203 := n2_; have GE203 := n3_; clear n0_ n1_ n2_ n3_; clear hb hbox hg) | ((with_reducible refine gate_dst (N := 4) rfl ?_); refine be 4 #[.int .u64 0, .int .u64 0, .int .i64 0, .slice none 0 0] 27 ?_; intro gb204 hg w10 hbox hb; have n0_ := am (blk_below (pk BK203.out) hb); have n1_ := am (below_step (pb HB) hb); have n2_ := am (hbox); have n3_ := am ((pg hg HB : w.heap.size ≤ gb204)); have n4_ := am ((pg hg HB : w.heap.size ≤ gb204)); have n5_ := am ((pl hg (pk BK203.out) : gb203 ≠ gb204)); have n6_ := am ((pl' hg (pk BK203.out) : gb204 ≠ gb203)); clear BK203; clear HB; have BK203 := n0_; have HB := n1_; have BK204 := n2_; have GW204 := n3_; have GE204 := n4_; have NB203_204 := n5_; have NB204_203 := n6_; clear n0_ n1_ n2_ n3_ n4_ n5_ n6_; clear hb hbox hg; have hnb11 := NB204_203.out; have hnc11 := NB203_204.out; have hcz12_0 := ce BK204 0; have hcz12_1 := ce BK204 1; have hcz12_2 := ce BK204 2; have hcz12_3 := ce BK204 3; have hfz12_0 := fz BK204 0; have hfz12_1 := fz BK204 1; have hfz12_2 := fz BK204 2; have hfz12_3 := fz BK204 3))
  refine bodyPost_ret (results_ct rfl _ _ gb204 27 #[.int .u64 0, .int .u64 0, .int .i64 0, .slice none 0 0] (0, 0) _ rfl (by refine pk ?_; refine blk_put (cs := #[.int .u64 0, .int .u64 0, .int .i64 0, .slice none 0 0]) ?_ 3 _ rfl; refine pk ?_; refine blk_put (cs := #[.int .u64 0, .int .u64 0, .int .i64 0, .slice none 0 0]) ?_ 2 _ rfl; refine pk ?_; refine blk_put (cs := #[.int .u64 0, .int .u64 0, .int .i64 0, .slice none 0 0]) ?_ 1 _ rfl; refine pk ?_; refine blk_put (cs := #[.int .u64 0, .int .u64 0, .int .i64 0, .slice none 0 0]) ?_ 0 _ rfl; refine pk ?_; exact BK204.out) Try.underlying27 rfl (by kernel_rfl)) rfl ?_
  exact ⟨_, by first | rfl | (simp [errW_none, errW_some] <;> rfl) | (simp [*, errW_none, errW_some] <;> rfl), Kd.V_nil _ _ _ _ _, pb HB⟩
 rw [if_neg c8] at H
 have c8b0 : decide (1024 < a1) = false := decide_eq_false c8
 clear c8
 simp only [Option.some.injEq, Prod.mk.injEq] at H
 obtain ⟨rfl, rfl, rfl, rfl, rfl⟩ := H
 go_enter Try.func16, Try.ntmps16
 go_wp2_with (first | ((with_reducible refine gate_dst (N := 2) rfl ?_); refine be 2 #[.int .u64 a0_0, .int .u64 a0_1] 24 ?_; intro gb203 hg w13 hbox hb; have n0_ := am (below_step (pb HB) hb); have n1_ := am (hbox); have n2_ := am ((pg hg HB : w.heap.size ≤ gb203)); have n3_ := am ((pg hg HB : w.heap.size ≤ gb203)); clear HB; have HB := n0_; have BK203 := n1_; have GW203 := n2_; have GE203 := n3_; clear n0_ n1_ n2_ n3_; clear hb hbox hg) | ((with_reducible refine gate_dst (N := 4) rfl ?_); refine be 4 #[.int .u64 0, .int .u64 0, .int .i64 0, .slice none 0 0] 27 ?_; intro gb204 hg w14 hbox hb; have n0_ := am (blk_below (pk BK203.out) hb); have n1_ := am (below_step (pb HB) hb); have n2_ := am (hbox); have n3_ := am ((pg hg HB : w.heap.size ≤ gb204)); have n4_ := am ((pg hg HB : w.heap.size ≤ gb204)); have n5_ := am ((pl hg (pk BK203.out) : gb203 ≠ gb204)); have n6_ := am ((pl' hg (pk BK203.out) : gb204 ≠ gb203)); clear BK203; clear HB; have BK203 := n0_; have HB := n1_; have BK204 := n2_; have GW204 := n3_; have GE204 := n4_; have NB203_204 := n5_; have NB204_203 := n6_; clear n0_ n1_ n2_ n3_ n4_ n5_ n6_; clear hb hbox hg; have hnb15 := NB203_204.out; have hnc15 := NB204_203.out; have hcz16_0 := ce BK203 0; have hcz16_1 := ce BK203 1; have hfz16_0 := fz BK203 0; have hfz16_1 := fz BK203 1; have hcz17_0 := ce BK204 0; have hcz17_1 := ce BK204 1; have hcz17_2 := ce BK204 2; have hcz17_3 := ce BK204 3; have hfz17_0 := fz BK204 0; have hfz17_1 := fz BK204 1; have hfz17_2 := fz BK204 2; have hfz17_3 := fz BK204 3))
 refine bodyPost_ret (results_ct rfl _ _ gb204 27 #[.int .u64 a0_0, .int .u64 a0_1, .int .i64 a1, .slice none 0 0] (0, 0) _ rfl (by refine pk ?_; refine blk_put (cs := #[.int .u64 a0_0, .int .u64 a0_1, .int .i64 a1, .slice none 0 0]) ?_ 3 _ rfl; refine pk ?_; refine blk_put (cs := #[.int .u64 a0_0, .int .u64 a0_1, .int .i64 0, .slice none 0 0]) ?_ 2 _ rfl; refine pk ?_; refine blk_put (cs := #[.int .u64 a0_0, .int .u64 0, .int .i64 0, .slice none 0 0]) ?_ 1 _ rfl; refine pk ?_; refine blk_put (cs := #[.int .u64 0, .int .u64 0, .int .i64 0, .slice none 0 0]) ?_ 0 _ rfl; refine pk ?_; exact BK204.out) Try.underlying27 rfl (by kernel_rfl)) rfl ?_
 exact ⟨_, by first | rfl | (simp [errW_none, errW_some] <;> rfl) | (simp [*, errW_none, errW_some] <;> rfl), Kd.V_nil _ _ _ _ _, pb HB⟩
def wide_Of.f (a0 : Int) : Option (Int × Int) := some (0, a0)
set_option maxHeartbeats 8000000 in
set_option maxRecDepth 100000 in
theorem wide_Of.calls (a0 : Int) (r1 : Int) (r2 : Int) (w : World) (h : wide_Of.f a0 = some (r1, r2)) :
  Calls Try.prog 18 #[.int .u64 a0] w fun e w' => e = .returned (.agg #[.int .u64 r1, .int .u64 r2]) ∧ Below w.heap.size w w' := by
 have hu50 := Try.underlying50
 have HB := am (Below.refl w.heap.size w)
 have H : (some (0, a0)) = some (r1, r2) := h
 clear h
 simp only [Option.some.injEq, Prod.mk.injEq] at H
 obtain ⟨rfl, rfl⟩ := H
 go_enter Try.func18, Try.ntmps18
 go_wp2_with (first | ((with_reducible refine gate_dst (N := 2) rfl ?_); refine be 2 #[.int .u64 0, .int .u64 0] 50 ?_; intro gb205 hg w2 hbox hb; have n0_ := am (below_step (pb HB) hb); have n1_ := am (hbox); have n2_ := am ((pg hg HB : w.heap.size ≤ gb205)); have n3_ := am ((pg hg HB : w.heap.size ≤ gb205)); clear HB; have HB := n0_; have BK205 := n1_; have GW205 := n2_; have GE205 := n3_; clear n0_ n1_ n2_ n3_; clear hb hbox hg; have hcz3_0 := ce BK205 0; have hcz3_1 := ce BK205 1; have hfz3_0 := fz BK205 0; have hfz3_1 := fz BK205 1))
 refine bodyPost_ret (results_cell_row rfl _ _ gb205 50 #[.int .u64 0, .int .u64 a0] (0, 0) _ rfl (by refine pk ?_; refine blk_put (cs := #[.int .u64 0, .int .u64 0]) ?_ 1 _ rfl; refine pk ?_; refine blk_put (cs := #[.int .u64 0, .int .u64 0]) ?_ 0 _ rfl; refine pk ?_; exact BK205.out) Try.underlying50 rfl (by kernel_rfl)) rfl ?_
 exact ⟨by first | rfl | (simp [errW_none, errW_some] <;> rfl) | (simp [*, errW_none, errW_some] <;> rfl), pb HB⟩

end Go.Proofs.Ytmfffbafldbihaa.H
