-- laid by wip/hyb.py (the kit's printer with turns of ours)
import Derived.Test.YtojpmjkphgjmgaaHx0
import Derived.Test.YtojpmjkphgjmgaaHx4
import Derived.Test.YtojpmjkphgjmgaaHx7
import Derived.Test.YtojpmjkphgjmgaaHx9
import Derived.Test.YtojpmjkphgjmgaaHx11
import Derived.Test.YtojpmjkphgjmgaaHx15
namespace Go.Proofs.Ytojpmjkphgjmgaa.H
open Go.RowKit Go.Proofs.YtojpmjkphgjmgaaW.PrintWords Go.Proofs.YtojpmjkphgjmgaaW.PrintLast Go.Proofs.YtojpmjkphgjmgaaW.PrintMore Go.Proofs.YtojpmjkphgjmgaaW.Sq
attribute [local go_sem] max2_int min2_int max_two min_two max_three min_three max_four min_four   -- for this text's walks alone
set_option linter.unusedVariables false
set_option linter.unusedSimpArgs false

/-! ### samphirelaw12_IndexTwice: function 7 -/
mutual
def samphirelaw12_IndexTwice.j0 : Nat → ByteArray → Int → Int → Bool → Int → Int → List (S60) → Option (Bool)
 | 0, _, _, _, _, _, _, _ => none
 | k + 1, x1, x2, x3, x32, x588000, x588001, x588002 => if x32 = true then ((samphirelaw12_awake.f k).bind fun t595 => (some t595)) else ((index_Put.f k x588000 x588001 x588002 x1 x2).bind fun bt596 => ((index_Put.f k bt596.1 bt596.2.1 bt596.2.2.1 x1 x2).bind fun bt603 => (if bt596.2.2.2 = 0 then ((index_Put.f k bt603.1 bt603.2.1 bt603.2.2.1 x1 x3).bind fun bt622 => ((index_Put.f k bt622.1 bt622.2.1 bt622.2.2.1 x1 x2).bind fun bt629 => ((index_Get.f k bt622.1 bt622.2.1 bt622.2.2.1 x1).bind fun bt636 => (if bt622.2.2.2 = 0 then (samphirelaw12_IndexTwice.j1 k x3 bt603.2.2.2 bt629.2.2.2 bt636.1 bt636.2 bt596.1 bt596.2.1 bt596.2.2.1 bt603.1 bt603.2.1 bt603.2.2.1 bt629.1 bt629.2.1 bt629.2.2.1) else (samphirelaw12_IndexTwice.j1 k x3 bt603.2.2.2 bt629.2.2.2 x3 true bt596.1 bt596.2.1 bt596.2.2.1 bt603.1 bt603.2.1 bt603.2.2.1 bt629.1 bt629.2.1 bt629.2.2.1))))) else ((samphirelaw12_Ref.f k bt596.1 bt596.2.1 bt596.2.2.1).bind fun bt610 => ((samphirelaw12_Ref.f k x588000 x588001 x588002).bind fun bt615 => ((samphireref12_Same.f k bt610.1 bt610.2.1 bt610.2.2 bt615.1 bt615.2.1 bt615.2.2).bind fun t620 => (if t620 = true then ((samphirelaw12_awake.f k).bind fun t621 => (some t621)) else (some false))))))))
def samphirelaw12_IndexTwice.j1 : Nat → Int → Int → Int → Int → Bool → Int → Int → List (S60) → Int → Int → List (S60) → Int → Int → List (S60) → Option (Bool)
 | 0, _, _, _, _, _, _, _, _, _, _, _, _, _, _ => none
 | k + 1, x3, x12, x16, x17, x18, x603000, x603001, x603002, x610000, x610001, x610002, x636000, x636001, x636002 => if x12 = 0 then ((samphirelaw12_Ref.f k x603000 x603001 x603002).bind fun bt638 => ((samphirelaw12_Ref.f k x610000 x610001 x610002).bind fun bt643 => ((samphireref12_Same.f k bt638.1 bt638.2.1 bt638.2.2 bt643.1 bt643.2.1 bt643.2.2).bind fun t648 => (if t648 = true then (if x16 = 0 then ((samphirelaw12_Ref.f k x636000 x636001 x636002).bind fun bt649 => ((samphirelaw12_Ref.f k x603000 x603001 x603002).bind fun bt654 => ((samphireref12_Same.f k bt649.1 bt649.2.1 bt649.2.2 bt654.1 bt654.2.1 bt654.2.2).bind fun t659 => (if t659 = true then (if x18 = true then (if x17 = x3 then ((samphirelaw12_awake.f k).bind fun t660 => (some t660)) else (some false)) else (some false)) else (some false))))) else (some false)) else (some false))))) else (some false)
end
def samphirelaw12_IndexTwice.f (k : Nat) (a0_0 : Int) (a0_1 : Int) (l0_2 : List (S60)) (a1 : ByteArray) (a2 : Int) (a3 : Int) : Option (Bool) := (samphirelaw12_Ref.f k a0_0 a0_1 l0_2).bind fun bt588 => ((samphireref12_Small.f k bt588.1 bt588.2.1 bt588.2.2).bind fun t593 => (if t593 = true then (if (a1.size : Int) > 100 then (samphirelaw12_IndexTwice.j0 k a1 a2 a3 true a0_0 a0_1 l0_2) else ((index_Right.f k a0_0 a0_1 l0_2).bind fun t594 => (samphirelaw12_IndexTwice.j0 k a1 a2 a3 (!t594) a0_0 a0_1 l0_2))) else (samphirelaw12_IndexTwice.j0 k a1 a2 a3 true a0_0 a0_1 l0_2)))
theorem samphirelaw12_IndexTwice.mono_l : ∀ k, (∀ y0 y1 y2 y3 y4 y5 y6, LeO (samphirelaw12_IndexTwice.j0 k y0 y1 y2 y3 y4 y5 y6) (samphirelaw12_IndexTwice.j0 (k + 1) y0 y1 y2 y3 y4 y5 y6)) ∧ (∀ y0 y1 y2 y3 y4 y5 y6 y7 y8 y9 y10 y11 y12 y13, LeO (samphirelaw12_IndexTwice.j1 k y0 y1 y2 y3 y4 y5 y6 y7 y8 y9 y10 y11 y12 y13) (samphirelaw12_IndexTwice.j1 (k + 1) y0 y1 y2 y3 y4 y5 y6 y7 y8 y9 y10 y11 y12 y13))
 | 0 => ⟨fun _ _ _ _ _ _ _ r h => by simp [samphirelaw12_IndexTwice.j0] at h, fun _ _ _ _ _ _ _ _ _ _ _ _ _ _ r h => by simp [samphirelaw12_IndexTwice.j1] at h⟩
 | k + 1 => by
  obtain ⟨ih0, ih1⟩ := samphirelaw12_IndexTwice.mono_l k
  refine ⟨?_, ?_⟩
  ·intro y0 y1 y2 y3 y4 y5 y6
   unfold samphirelaw12_IndexTwice.j0
   repeat' first
   | (with_reducible exact ih0 _ _ _ _ _ _ _)
   | (with_reducible exact ih1 _ _ _ _ _ _ _ _ _ _ _ _ _ _)
   | (with_reducible exact index_Get.mono _ _ _ _ _)
   | (with_reducible exact index_Put.mono _ _ _ _ _ _)
   | (with_reducible exact index_Right.mono _ _ _ _)
   | (with_reducible exact samphirelaw12_Ref.mono _ _ _ _)
   | (with_reducible exact samphirelaw12_awake.mono _)
   | (with_reducible exact samphireref12_Same.mono _ _ _ _ _ _ _)
   | (with_reducible exact samphireref12_Small.mono _ _ _ _)
   | (with_reducible exact LeO.refl _)
   | (with_reducible exact LeO.none _)
   | (with_reducible refine LeO.ite ?_ ?_)
   | (with_reducible refine LeO.bind ?_ (fun _ => ?_))
   | exact ih0 _ _ _ _ _ _ _
   | exact ih1 _ _ _ _ _ _ _ _ _ _ _ _ _ _
   | exact index_Get.mono _ _ _ _ _
   | exact index_Put.mono _ _ _ _ _ _
   | exact index_Right.mono _ _ _ _
   | exact samphirelaw12_Ref.mono _ _ _ _
   | exact samphirelaw12_awake.mono _
   | exact samphireref12_Same.mono _ _ _ _ _ _ _
   | exact samphireref12_Small.mono _ _ _ _
   | exact LeO.none _
   | refine LeO.ite ?_ ?_
   | refine LeO.bind ?_ (fun _ => ?_)
  ·intro y0 y1 y2 y3 y4 y5 y6 y7 y8 y9 y10 y11 y12 y13
   unfold samphirelaw12_IndexTwice.j1
   repeat' first
   | (with_reducible exact ih0 _ _ _ _ _ _ _)
   | (with_reducible exact ih1 _ _ _ _ _ _ _ _ _ _ _ _ _ _)
   | (with_reducible exact index_Get.mono _ _ _ _ _)
   | (with_reducible exact index_Put.mono _ _ _ _ _ _)
   | (with_reducible exact index_Right.mono _ _ _ _)
   | (with_reducible exact samphirelaw12_Ref.mono _ _ _ _)
   | (with_reducible exact samphirelaw12_awake.mono _)
   | (with_reducible exact samphireref12_Same.mono _ _ _ _ _ _ _)
   | (with_reducible exact samphireref12_Small.mono _ _ _ _)
   | (with_reducible exact LeO.refl _)
   | (with_reducible exact LeO.none _)
   | (with_reducible refine LeO.ite ?_ ?_)
   | (with_reducible refine LeO.bind ?_ (fun _ => ?_))
   | exact ih0 _ _ _ _ _ _ _
   | exact ih1 _ _ _ _ _ _ _ _ _ _ _ _ _ _
   | exact index_Get.mono _ _ _ _ _
   | exact index_Put.mono _ _ _ _ _ _
   | exact index_Right.mono _ _ _ _
   | exact samphirelaw12_Ref.mono _ _ _ _
   | exact samphirelaw12_awake.mono _
   | exact samphireref12_Same.mono _ _ _ _ _ _ _
   | exact samphireref12_Small.mono _ _ _ _
   | exact LeO.none _
   | refine LeO.ite ?_ ?_
   | refine LeO.bind ?_ (fun _ => ?_)
theorem samphirelaw12_IndexTwice.mono : ∀ a0 a1 a2 a3 a4 a5 k, LeO (samphirelaw12_IndexTwice.f k a0 a1 a2 a3 a4 a5) (samphirelaw12_IndexTwice.f (k + 1) a0 a1 a2 a3 a4 a5) := by
 intro a0 a1 a2 a3 a4 a5 k
 obtain ⟨ih0, ih1⟩ := samphirelaw12_IndexTwice.mono_l k
 unfold samphirelaw12_IndexTwice.f
 repeat' first
   | (with_reducible exact ih0 _ _ _ _ _ _ _)
   | (with_reducible exact ih1 _ _ _ _ _ _ _ _ _ _ _ _ _ _)
   | (with_reducible exact index_Get.mono _ _ _ _ _)
   | (with_reducible exact index_Put.mono _ _ _ _ _ _)
   | (with_reducible exact index_Right.mono _ _ _ _)
   | (with_reducible exact samphirelaw12_Ref.mono _ _ _ _)
   | (with_reducible exact samphirelaw12_awake.mono _)
   | (with_reducible exact samphireref12_Same.mono _ _ _ _ _ _ _)
   | (with_reducible exact samphireref12_Small.mono _ _ _ _)
   | (with_reducible exact LeO.refl _)
   | (with_reducible exact LeO.none _)
   | (with_reducible refine LeO.ite ?_ ?_)
   | (with_reducible refine LeO.bind ?_ (fun _ => ?_))
   | exact ih0 _ _ _ _ _ _ _
   | exact ih1 _ _ _ _ _ _ _ _ _ _ _ _ _ _
   | exact index_Get.mono _ _ _ _ _
   | exact index_Put.mono _ _ _ _ _ _
   | exact index_Right.mono _ _ _ _
   | exact samphirelaw12_Ref.mono _ _ _ _
   | exact samphirelaw12_awake.mono _
   | exact samphireref12_Same.mono _ _ _ _ _ _ _
   | exact samphireref12_Small.mono _ _ _ _
   | exact LeO.none _
   | refine LeO.ite ?_ ?_
   | refine LeO.bind ?_ (fun _ => ?_)
def samphirelaw12_IndexTwice.T6 : Bool × List (List Nat × List Nat) := (true, [([], []), ([0], [0]), ([], []), ([2, 1], [2]), ([1, 3, 3], [1, 3]), ([4, 4], [4]), ([5, 5], [5]), ([5, 6], [5, 6]), ([7, 6, 0, 1, 2, 3, 4, 5, 6, 7], [7])])
def samphirelaw12_IndexTwice.B6 : List Nat := [0, 1, 0, 7, 15, 31, 63, 127, 255]
theorem samphirelaw12_IndexTwice.tab6 : rtab .any (opsOf Try.f7 6) = samphirelaw12_IndexTwice.T6 := by kernel_rfl
theorem samphirelaw12_IndexTwice.bits6 : waitsOk samphirelaw12_IndexTwice.T6.2 samphirelaw12_IndexTwice.B6 = true := by kernel_rfl
def samphirelaw12_IndexTwice.T12 : Bool × List (List Nat × List Nat) := (true, [([], []), ([0], [0]), ([1], [1]), ([2], [2]), ([3, 2, 2], [2, 3]), ([2], [2]), ([5, 4, 2], [2, 5]), ([4, 6, 6, 2], [2, 4, 6]), ([2, 7], [2, 7]), ([8, 7], [8]), ([9], [9]), ([10, 9], [9, 10]), ([9, 11], [9, 11]), ([12, 9], [12]), ([13], [13]), ([14, 13, 13], [13, 14]), ([13], [13]), ([16, 15, 13], [13, 16]), ([15, 17, 17, 13], [13, 15, 17]), ([13, 18], [13, 18]), ([19, 18], [19]), ([20], [20]), ([20, 21], [20, 21]), ([22, 20], [22]), ([23], [23]), ([23], [23]), ([24, 25, 23], [23, 24, 25]), ([23, 26], [23, 26]), ([27, 23], [27]), ([28, 28], [28]), ([28, 29], [28, 29]), ([30, 29, 0, 1, 2, 3, 4, 5, 6, 7, 8, 9, 10, 11, 12, 13, 14, 15, 16, 17, 18, 19, 20, 21, 22, 23, 24, 25, 26, 27, 28, 29, 30], [30])])
def samphirelaw12_IndexTwice.B12 : List Nat := [0, 1, 3, 7, 15, 7, 63, 127, 255, 511, 1023, 2047, 4095, 8191, 16383, 32767, 16383, 131071, 262143, 524287, 1048575, 2097151, 4194303, 8388607, 16777215, 16777215, 67108863, 134217727, 268435455, 536870911, 1073741823, 2147483647]
theorem samphirelaw12_IndexTwice.tab12 : rtab .any (opsOf Try.f7 12) = samphirelaw12_IndexTwice.T12 := by kernel_rfl
theorem samphirelaw12_IndexTwice.bits12 : waitsOk samphirelaw12_IndexTwice.T12.2 samphirelaw12_IndexTwice.B12 = true := by kernel_rfl
set_option maxHeartbeats 8000000 in
set_option maxRecDepth 100000 in
theorem samphirelaw12_IndexTwice.calls (k : Nat) (a0_0 : Int) (a0_1 : Int) (A0_2 : Option Addr) (c0_2 : Nat) (l0_2 : List (S60)) (a1 : ByteArray) (a2 : Int) (a3 : Int) (r : Bool) (hrT : Aside0 (r = true)) (w : World) (hr0_2 : Kd.C k60 w A0_2 l0_2.length l0_2) (hc0_2 : l0_2.length ≤ c0_2) (h : samphirelaw12_IndexTwice.f k a0_0 a0_1 l0_2 a1 a2 a3 = some r) :
  Calls Try.prog 7 #[.agg #[.int .u64 a0_0, .int .u64 a0_1, .slice A0_2 l0_2.length c0_2], .string a1, .int .i64 a2, .int .i64 a3] w fun e w' => e = .returned (.bool r) ∧ Below w.heap.size w w' := by
 have hu27 := Try.underlying27
 have HR0_2 := Aside0.mk hr0_2
 have HC0_2 := Aside0.mk hc0_2
 clear hr0_2 hc0_2
 have HB := Aside0.mk (Below.refl w.heap.size w)
 have H : ((samphirelaw12_Ref.f k a0_0 a0_1 l0_2).bind fun bt588 => ((samphireref12_Small.f k bt588.1 bt588.2.1 bt588.2.2).bind fun t593 => (if t593 = true then (if (a1.size : Int) > 100 then (samphirelaw12_IndexTwice.j0 k a1 a2 a3 true a0_0 a0_1 l0_2) else ((index_Right.f k a0_0 a0_1 l0_2).bind fun t594 => (samphirelaw12_IndexTwice.j0 k a1 a2 a3 (!t594) a0_0 a0_1 l0_2))) else (samphirelaw12_IndexTwice.j0 k a1 a2 a3 true a0_0 a0_1 l0_2)))) = some r := h
 clear h
 have HC5 := Aside0.mk H
 clear H
 go_enter Try.func7, Try.ntmps7
 go_upto_region 1 with (first | ((with_reducible refine gate_dst (N := 4) rfl ?_); (try (refine gate_guard (by rfl) ?_; dsimp only)); refine box_event ?hg (N := 4) ?hd (cs := #[.int .u64 a0_0, .int .u64 a0_1, .slice A0_2 l0_2.length c0_2]) (t := 27) ?hr ?_; (case hd => rfl); (case hg => rfl); (case hr => first | (go_simp; done) | (go_simp; rfl)); intro gb587 hg w6 hbox hb; have n0_ := Aside0.mk (below_step (pb HB) hb); have n1_ := Aside0.mk (hbox); have n2_ := Aside0.mk ((pg hg HB : w.heap.size ≤ gb587)); have n3_ := Aside0.mk ((pg hg HB : w.heap.size ≤ gb587)); clear HB; have HB := n0_; have BK587 := n1_; have GW587 := n2_; have GE587 := n3_; clear n0_ n1_ n2_ n3_; clear hb hbox hg))
 (try simp only [Act.put, List.setIfInBounds_toArray, List.set_cons_zero, List.set_cons_succ])
 go_cut [32] (fun v32 wc => ∃ (kq : Nat) (x32_4 : Bool), v32 = .bool x32_4 ∧ Aside0 (samphirelaw12_IndexTwice.j0 kq a1 a2 a3 x32_4 a0_0 a0_1 l0_2 = some r) ∧ Aside0 (kq ≤ k) ∧ Aside0 (wc.heap[gb587]? = some (.cells #[.int .u64 a0_0, .int .u64 a0_1, (.slice A0_2 l0_2.length c0_2)] 27 (0, 0))) ∧ Aside0 (Below w.heap.size w wc))
 case first =>
  have H := HC5.out
  clear HC5
  replace H := Option.bind_eq_some_iff.mp H
  obtain ⟨⟨t588, t589, t590⟩, A70, H⟩ := H
  replace H : ((samphireref12_Small.f k t588 t589 t590).bind fun t593 => (if t593 = true then (if (a1.size : Int) > 100 then (samphirelaw12_IndexTwice.j0 k a1 a2 a3 true a0_0 a0_1 l0_2) else ((index_Right.f k a0_0 a0_1 l0_2).bind fun t594 => (samphirelaw12_IndexTwice.j0 k a1 a2 a3 (!t594) a0_0 a0_1 l0_2))) else (samphirelaw12_IndexTwice.j0 k a1 a2 a3 true a0_0 a0_1 l0_2))) = some r := H
  have A7 := Aside0.mk A70
  clear A70
  replace H := Option.bind_eq_some_iff.mp H
  obtain ⟨t593, A80, H⟩ := H
  replace H : (if t593 = true then (if (a1.size : Int) > 100 then (samphirelaw12_IndexTwice.j0 k a1 a2 a3 true a0_0 a0_1 l0_2) else ((index_Right.f k a0_0 a0_1 l0_2).bind fun t594 => (samphirelaw12_IndexTwice.j0 k a1 a2 a3 (!t594) a0_0 a0_1 l0_2))) else (samphirelaw12_IndexTwice.j0 k a1 a2 a3 true a0_0 a0_1 l0_2)) = some r := H
  have A8 := Aside0.mk A80
  clear A80
  by_cases c9 : t593 = true
  ·subst c9
   have H1 : (if (a1.size : Int) > 100 then (samphirelaw12_IndexTwice.j0 k a1 a2 a3 true a0_0 a0_1 l0_2) else ((index_Right.f k a0_0 a0_1 l0_2).bind fun t594 => (samphirelaw12_IndexTwice.j0 k a1 a2 a3 (!t594) a0_0 a0_1 l0_2))) = some r := by rw [if_pos rfl] at H; exact H
   clear H
   have H := H1
   clear H1
   by_cases c10 : (a1.size : Int) > 100
   ·rw [if_pos c10] at H
    have c10b0 : decide (100 < (a1.size : Int)) = true := decide_eq_true c10
    have c10b1 : decide (100 < a1.size) = true := decide_eq_true (by omega)
    clear c10
    (first | rw [c10b0] | (simp only [i64_w, i32_w]; rw [c10b0]) | skip)
    have H' := Aside0.mk H
    clear H
    have hcz11_0 := ce BK587 0
    have hcz11_1 := ce BK587 1
    have hcz11_2 := ce BK587 2
    have hfz11_0 := fz BK587 0
    have hfz11_1 := fz BK587 1
    have hfz11_2 := fz BK587 2
    go_wp2_with (first | ((with_reducible refine gate_callee (f := 8) rfl ?_); refine gl (some 20) Try.func8 #[.agg #[.int .u64 a0_0, .int .u64 a0_1, .slice A0_2 l0_2.length c0_2]] ?_; (with_reducible refine (samphirelaw12_Ref.calls k a0_0 a0_1 _ _ l0_2 t588 t589 t590 _ ?side1 ?side2 A7.out).mono ?_); (case side1 => repeat (first | exact (Kd.C_below HR0_2.out HB.out) | (with_reducible refine Kd.C_alloc ?_ _) | (with_reducible refine Kd.C_drewN ?_ _) | (with_reducible refine Kd.C_drew ?_))); (case side2 => exact HC0_2.out); rintro e w12 ⟨v591, rfl, ho0, hb⟩; refine ⟨_, rfl, ?_⟩; have n0_ := Aside0.mk (Kd.R_lower ho0 (below_size (pb HB))); have n1_ := Aside0.mk (blk_below (pk BK587.out) hb); have n2_ := Aside0.mk (below_step (pb HB) hb); clear BK587; clear HB; have HO592 := n0_; have BK587 := n1_; have HB := n2_; clear n0_ n1_ n2_; (try clear hb); (try clear hb2); (try clear hk); (try clear hi); (try clear ho0); obtain ⟨Ao13, co13, eo13⟩ := Kd.R_slice HO592.out; subst eo13) | ((with_reducible refine gate_callee (f := 9) rfl ?_); refine gl (some 21) Try.func9 #[.agg #[.int .u64 t588, .int .u64 t589, .slice Ao13 t590.length co13]] ?_; (with_reducible refine (samphireref12_Small.calls k t588 t589 _ _ t590 true _ ?side1 ?side2 A8.out).mono ?_); (case side1 => repeat (first | exact (Kd.R_reads' HO592.out).2.2 | (with_reducible refine Kd.C_alloc ?_ _) | (with_reducible refine Kd.C_drewN ?_ _) | (with_reducible refine Kd.C_drew ?_))); (case side2 => exact (Kd.R_reads' HO592.out).2.1); rintro e w14 ⟨rfl, hb⟩; refine ⟨_, rfl, ?_⟩; have n0_ := Aside0.mk (Kd.R_below (pr HO592.out) hb); have n1_ := Aside0.mk (blk_below (pk BK587.out) hb); have n2_ := Aside0.mk (below_step (pb HB) hb); clear HO592; clear BK587; clear HB; have HO592 := n0_; have BK587 := n1_; have HB := n2_; clear n0_ n1_ n2_; (try clear hb); (try clear hb2); (try clear hk); (try clear hi)))
    go_meet
    case rel => exact ⟨_, (true), (by first | rfl | (simp; done) | (simp [*]; done)), H', ⟨by first | omega | exact Nat.le_refl _⟩, ⟨pk BK587.out⟩, ⟨pb HB⟩⟩
   ·rw [if_neg c10] at H
    have c10b0 : decide (100 < (a1.size : Int)) = false := decide_eq_false c10
    have c10b1 : decide (100 < a1.size) = false := decide_eq_false (by omega)
    clear c10
    (first | rw [c10b0] | (simp only [i64_w, i32_w]; rw [c10b0]) | skip)
    replace H := Option.bind_eq_some_iff.mp H
    obtain ⟨t594, A150, H⟩ := H
    replace H : (samphirelaw12_IndexTwice.j0 k a1 a2 a3 (!t594) a0_0 a0_1 l0_2) = some r := H
    have A15 := Aside0.mk A150
    clear A150
    have H' := Aside0.mk H
    clear H
    have hcz16_0 := ce BK587 0
    have hcz16_1 := ce BK587 1
    have hcz16_2 := ce BK587 2
    have hfz16_0 := fz BK587 0
    have hfz16_1 := fz BK587 1
    have hfz16_2 := fz BK587 2
    go_wp2_with (first | ((with_reducible refine gate_callee (f := 8) rfl ?_); refine gl (some 20) Try.func8 #[.agg #[.int .u64 a0_0, .int .u64 a0_1, .slice A0_2 l0_2.length c0_2]] ?_; (with_reducible refine (samphirelaw12_Ref.calls k a0_0 a0_1 _ _ l0_2 t588 t589 t590 _ ?side1 ?side2 A7.out).mono ?_); (case side1 => repeat (first | exact (Kd.C_below HR0_2.out HB.out) | (with_reducible refine Kd.C_alloc ?_ _) | (with_reducible refine Kd.C_drewN ?_ _) | (with_reducible refine Kd.C_drew ?_))); (case side2 => exact HC0_2.out); rintro e w17 ⟨v591, rfl, ho0, hb⟩; refine ⟨_, rfl, ?_⟩; have n0_ := Aside0.mk (Kd.R_lower ho0 (below_size (pb HB))); have n1_ := Aside0.mk (blk_below (pk BK587.out) hb); have n2_ := Aside0.mk (below_step (pb HB) hb); clear BK587; clear HB; have HO592 := n0_; have BK587 := n1_; have HB := n2_; clear n0_ n1_ n2_; (try clear hb); (try clear hb2); (try clear hk); (try clear hi); (try clear ho0); obtain ⟨Ao18, co18, eo18⟩ := Kd.R_slice HO592.out; subst eo18) | ((with_reducible refine gate_callee (f := 9) rfl ?_); refine gl (some 21) Try.func9 #[.agg #[.int .u64 t588, .int .u64 t589, .slice Ao18 t590.length co18]] ?_; (with_reducible refine (samphireref12_Small.calls k t588 t589 _ _ t590 true _ ?side1 ?side2 A8.out).mono ?_); (case side1 => repeat (first | exact (Kd.R_reads' HO592.out).2.2 | (with_reducible refine Kd.C_alloc ?_ _) | (with_reducible refine Kd.C_drewN ?_ _) | (with_reducible refine Kd.C_drew ?_))); (case side2 => exact (Kd.R_reads' HO592.out).2.1); rintro e w19 ⟨rfl, hb⟩; refine ⟨_, rfl, ?_⟩; have n0_ := Aside0.mk (Kd.R_below (pr HO592.out) hb); have n1_ := Aside0.mk (blk_below (pk BK587.out) hb); have n2_ := Aside0.mk (below_step (pb HB) hb); clear HO592; clear BK587; clear HB; have HO592 := n0_; have BK587 := n1_; have HB := n2_; clear n0_ n1_ n2_; (try clear hb); (try clear hb2); (try clear hk); (try clear hi); have hcz20_0 := ce BK587 0; have hcz20_1 := ce BK587 1; have hcz20_2 := ce BK587 2; have hfz20_0 := fz BK587 0; have hfz20_1 := fz BK587 1; have hfz20_2 := fz BK587 2) | (go_at_call 15; (with_reducible refine (index_Right.calls k a0_0 a0_1 _ _ l0_2 t594 _ ?side1 ?side2 A15.out).mono ?_); (case side1 => repeat (first | exact (Kd.C_below HR0_2.out HB.out) | (with_reducible refine Kd.C_alloc ?_ _) | (with_reducible refine Kd.C_drewN ?_ _) | (with_reducible refine Kd.C_drew ?_))); (case side2 => exact HC0_2.out); rintro e w21 ⟨rfl, hb⟩; have n0_ := Aside0.mk (Kd.R_below (pr HO592.out) hb); have n1_ := Aside0.mk (blk_below (pk BK587.out) hb); have n2_ := Aside0.mk (below_step (pb HB) hb); clear HO592; clear BK587; clear HB; have HO592 := n0_; have BK587 := n1_; have HB := n2_; clear n0_ n1_ n2_; (try clear hb); (try clear hb2); (try clear hk); (try clear hi)))
    go_meet
    case rel => exact ⟨_, (!t594), (by first | rfl | (simp; done) | (simp [*]; done)), H', ⟨by first | omega | exact Nat.le_refl _⟩, ⟨pk BK587.out⟩, ⟨pb HB⟩⟩
  ·replace c9 := Bool.eq_false_iff.mpr c9
   subst c9
   have H1 : (samphirelaw12_IndexTwice.j0 k a1 a2 a3 true a0_0 a0_1 l0_2) = some r := by rw [if_neg (show ¬ (false = true) by decide)] at H; exact H
   clear H
   have H := H1
   clear H1
   have H' := Aside0.mk H
   clear H
   have hcz22_0 := ce BK587 0
   have hcz22_1 := ce BK587 1
   have hcz22_2 := ce BK587 2
   have hfz22_0 := fz BK587 0
   have hfz22_1 := fz BK587 1
   have hfz22_2 := fz BK587 2
   go_wp2_with (first | ((with_reducible refine gate_callee (f := 8) rfl ?_); refine gl (some 20) Try.func8 #[.agg #[.int .u64 a0_0, .int .u64 a0_1, .slice A0_2 l0_2.length c0_2]] ?_; (with_reducible refine (samphirelaw12_Ref.calls k a0_0 a0_1 _ _ l0_2 t588 t589 t590 _ ?side1 ?side2 A7.out).mono ?_); (case side1 => repeat (first | exact (Kd.C_below HR0_2.out HB.out) | (with_reducible refine Kd.C_alloc ?_ _) | (with_reducible refine Kd.C_drewN ?_ _) | (with_reducible refine Kd.C_drew ?_))); (case side2 => exact HC0_2.out); rintro e w23 ⟨v591, rfl, ho0, hb⟩; refine ⟨_, rfl, ?_⟩; have n0_ := Aside0.mk (Kd.R_lower ho0 (below_size (pb HB))); have n1_ := Aside0.mk (blk_below (pk BK587.out) hb); have n2_ := Aside0.mk (below_step (pb HB) hb); clear BK587; clear HB; have HO592 := n0_; have BK587 := n1_; have HB := n2_; clear n0_ n1_ n2_; (try clear hb); (try clear hb2); (try clear hk); (try clear hi); (try clear ho0); obtain ⟨Ao24, co24, eo24⟩ := Kd.R_slice HO592.out; subst eo24) | ((with_reducible refine gate_callee (f := 9) rfl ?_); refine gl (some 21) Try.func9 #[.agg #[.int .u64 t588, .int .u64 t589, .slice Ao24 t590.length co24]] ?_; (with_reducible refine (samphireref12_Small.calls k t588 t589 _ _ t590 false _ ?side1 ?side2 A8.out).mono ?_); (case side1 => repeat (first | exact (Kd.R_reads' HO592.out).2.2 | (with_reducible refine Kd.C_alloc ?_ _) | (with_reducible refine Kd.C_drewN ?_ _) | (with_reducible refine Kd.C_drew ?_))); (case side2 => exact (Kd.R_reads' HO592.out).2.1); rintro e w25 ⟨rfl, hb⟩; refine ⟨_, rfl, ?_⟩; have n0_ := Aside0.mk (Kd.R_below (pr HO592.out) hb); have n1_ := Aside0.mk (blk_below (pk BK587.out) hb); have n2_ := Aside0.mk (below_step (pb HB) hb); clear HO592; clear BK587; clear HB; have HO592 := n0_; have BK587 := n1_; have HB := n2_; clear n0_ n1_ n2_; (try clear hb); (try clear hb2); (try clear hk); (try clear hi)))
   go_meet
   case rel => exact ⟨_, (true), (by first | rfl | (simp; done) | (simp [*]; done)), H', ⟨by first | omega | exact Nat.le_refl _⟩, ⟨pk BK587.out⟩, ⟨pb HB⟩⟩
 case rest =>
  clear HC5
  try clear c1
  try clear p2
  try clear c7
  try clear c8
  try clear c9
  try clear c10
  try clear c10b0
  try clear c10b1
  try clear hcz11_0 hcz11_1 hcz11_2
  try clear hcz16_0 hcz16_1 hcz16_2
  try clear hcz20_0 hcz20_1 hcz20_2
  try clear hcz22_0 hcz22_1 hcz22_2
  try clear hfz11_0 hfz11_1 hfz11_2
  try clear hfz16_0 hfz16_1 hfz16_2
  try clear hfz20_0 hfz20_1 hfz20_2
  try clear hfz22_0 hfz22_1 hfz22_2
  obtain ⟨kq, x32_4, rfl, HA, HJ4, BK587, HB⟩ := hcut
  cases kq with
  | zero => exact absurd HA.out (by simp [samphirelaw12_IndexTwice.j0])
  | succ kj4 =>
   have H := HA.out
   clear HA
   simp only [samphirelaw12_IndexTwice.j0] at H
   by_cases c26 : x32_4 = true
   ·subst c26
    have H1 : ((samphirelaw12_awake.f kj4).bind fun t595 => (some t595)) = some r := by rw [if_pos rfl] at H; exact H
    clear H
    have H := H1
    clear H1
    replace H := Option.bind_eq_some_iff.mp H
    obtain ⟨t595, A270, H⟩ := H
    replace H : (some t595) = some r := H
    have A27 := Aside0.mk A270
    clear A270
    obtain rfl := Option.some.inj H
    go_wp2_with (first | ((with_reducible refine gate_callee (f := 10) rfl ?_); refine gl (some 33) Try.func10 #[] ?_; (with_reducible refine (samphirelaw12_awake.calls kj4  t595 hrT _ A27.out).mono ?_); rintro e w28 ⟨rfl, hb⟩; refine ⟨_, rfl, ?_⟩; have n0_ := Aside0.mk (blk_below (pk BK587.out) hb); have n1_ := Aside0.mk (below_step (pb HB) hb); clear BK587; clear HB; have BK587 := n0_; have HB := n1_; clear n0_ n1_; (try clear hb); (try clear hb2); (try clear hk); (try clear hi)))
    go_ret
    exact ⟨by first | rfl | (simp [errW_none, errW_some] <;> rfl) | (simp [*, errW_none, errW_some] <;> rfl), pb HB⟩
   ·replace c26 := Bool.eq_false_iff.mpr c26
    subst c26
    have H1 : ((index_Put.f kj4 a0_0 a0_1 l0_2 a1 a2).bind fun bt596 => ((index_Put.f kj4 bt596.1 bt596.2.1 bt596.2.2.1 a1 a2).bind fun bt603 => (if bt596.2.2.2 = 0 then ((index_Put.f kj4 bt603.1 bt603.2.1 bt603.2.2.1 a1 a3).bind fun bt622 => ((index_Put.f kj4 bt622.1 bt622.2.1 bt622.2.2.1 a1 a2).bind fun bt629 => ((index_Get.f kj4 bt622.1 bt622.2.1 bt622.2.2.1 a1).bind fun bt636 => (if bt622.2.2.2 = 0 then (samphirelaw12_IndexTwice.j1 kj4 a3 bt603.2.2.2 bt629.2.2.2 bt636.1 bt636.2 bt596.1 bt596.2.1 bt596.2.2.1 bt603.1 bt603.2.1 bt603.2.2.1 bt629.1 bt629.2.1 bt629.2.2.1) else (samphirelaw12_IndexTwice.j1 kj4 a3 bt603.2.2.2 bt629.2.2.2 a3 true bt596.1 bt596.2.1 bt596.2.2.1 bt603.1 bt603.2.1 bt603.2.2.1 bt629.1 bt629.2.1 bt629.2.2.1))))) else ((samphirelaw12_Ref.f kj4 bt596.1 bt596.2.1 bt596.2.2.1).bind fun bt610 => ((samphirelaw12_Ref.f kj4 a0_0 a0_1 l0_2).bind fun bt615 => ((samphireref12_Same.f kj4 bt610.1 bt610.2.1 bt610.2.2 bt615.1 bt615.2.1 bt615.2.2).bind fun t620 => (if t620 = true then ((samphirelaw12_awake.f kj4).bind fun t621 => (some t621)) else (some false)))))))) = some r := by rw [if_neg (show ¬ (false = true) by decide)] at H; exact H
    clear H
    have H := H1
    clear H1
    replace H := Option.bind_eq_some_iff.mp H
    obtain ⟨⟨t596, t597, t598, t601⟩, A290, H⟩ := H
    replace H : ((index_Put.f kj4 t596 t597 t598 a1 a2).bind fun bt603 => (if t601 = 0 then ((index_Put.f kj4 bt603.1 bt603.2.1 bt603.2.2.1 a1 a3).bind fun bt622 => ((index_Put.f kj4 bt622.1 bt622.2.1 bt622.2.2.1 a1 a2).bind fun bt629 => ((index_Get.f kj4 bt622.1 bt622.2.1 bt622.2.2.1 a1).bind fun bt636 => (if bt622.2.2.2 = 0 then (samphirelaw12_IndexTwice.j1 kj4 a3 bt603.2.2.2 bt629.2.2.2 bt636.1 bt636.2 t596 t597 t598 bt603.1 bt603.2.1 bt603.2.2.1 bt629.1 bt629.2.1 bt629.2.2.1) else (samphirelaw12_IndexTwice.j1 kj4 a3 bt603.2.2.2 bt629.2.2.2 a3 true t596 t597 t598 bt603.1 bt603.2.1 bt603.2.2.1 bt629.1 bt629.2.1 bt629.2.2.1))))) else ((samphirelaw12_Ref.f kj4 t596 t597 t598).bind fun bt610 => ((samphirelaw12_Ref.f kj4 a0_0 a0_1 l0_2).bind fun bt615 => ((samphireref12_Same.f kj4 bt610.1 bt610.2.1 bt610.2.2 bt615.1 bt615.2.1 bt615.2.2).bind fun t620 => (if t620 = true then ((samphirelaw12_awake.f kj4).bind fun t621 => (some t621)) else (some false))))))) = some r := H
    have A29 := Aside0.mk A290
    clear A290
    replace H := Option.bind_eq_some_iff.mp H
    obtain ⟨⟨t603, t604, t605, t608⟩, A300, H⟩ := H
    replace H : (if t601 = 0 then ((index_Put.f kj4 t603 t604 t605 a1 a3).bind fun bt622 => ((index_Put.f kj4 bt622.1 bt622.2.1 bt622.2.2.1 a1 a2).bind fun bt629 => ((index_Get.f kj4 bt622.1 bt622.2.1 bt622.2.2.1 a1).bind fun bt636 => (if bt622.2.2.2 = 0 then (samphirelaw12_IndexTwice.j1 kj4 a3 t608 bt629.2.2.2 bt636.1 bt636.2 t596 t597 t598 t603 t604 t605 bt629.1 bt629.2.1 bt629.2.2.1) else (samphirelaw12_IndexTwice.j1 kj4 a3 t608 bt629.2.2.2 a3 true t596 t597 t598 t603 t604 t605 bt629.1 bt629.2.1 bt629.2.2.1))))) else ((samphirelaw12_Ref.f kj4 t596 t597 t598).bind fun bt610 => ((samphirelaw12_Ref.f kj4 a0_0 a0_1 l0_2).bind fun bt615 => ((samphireref12_Same.f kj4 bt610.1 bt610.2.1 bt610.2.2 bt615.1 bt615.2.1 bt615.2.2).bind fun t620 => (if t620 = true then ((samphirelaw12_awake.f kj4).bind fun t621 => (some t621)) else (some false)))))) = some r := H
    have A30 := Aside0.mk A300
    clear A300
    by_cases c31 : t601 = 0
    ·rw [if_pos c31] at H
     have c31b0 : (t601 == 0) = true := beq_iff_eq.mpr c31
     have c31b1 : (t601 != 0) = false := bne_eq_false_iff_eq.mpr c31
     clear c31
     replace H := Option.bind_eq_some_iff.mp H
     obtain ⟨⟨t622, t623, t624, t627⟩, A320, H⟩ := H
     replace H : ((index_Put.f kj4 t622 t623 t624 a1 a2).bind fun bt629 => ((index_Get.f kj4 t622 t623 t624 a1).bind fun bt636 => (if t627 = 0 then (samphirelaw12_IndexTwice.j1 kj4 a3 t608 bt629.2.2.2 bt636.1 bt636.2 t596 t597 t598 t603 t604 t605 bt629.1 bt629.2.1 bt629.2.2.1) else (samphirelaw12_IndexTwice.j1 kj4 a3 t608 bt629.2.2.2 a3 true t596 t597 t598 t603 t604 t605 bt629.1 bt629.2.1 bt629.2.2.1)))) = some r := H
     have A32 := Aside0.mk A320
     clear A320
     replace H := Option.bind_eq_some_iff.mp H
     obtain ⟨⟨t629, t630, t631, t634⟩, A330, H⟩ := H
     replace H : ((index_Get.f kj4 t622 t623 t624 a1).bind fun bt636 => (if t627 = 0 then (samphirelaw12_IndexTwice.j1 kj4 a3 t608 t634 bt636.1 bt636.2 t596 t597 t598 t603 t604 t605 t629 t630 t631) else (samphirelaw12_IndexTwice.j1 kj4 a3 t608 t634 a3 true t596 t597 t598 t603 t604 t605 t629 t630 t631))) = some r := H
     have A33 := Aside0.mk A330
     clear A330
     replace H := Option.bind_eq_some_iff.mp H
     obtain ⟨⟨t636, t637⟩, A340, H⟩ := H
     replace H : (if t627 = 0 then (samphirelaw12_IndexTwice.j1 kj4 a3 t608 t634 t636 t637 t596 t597 t598 t603 t604 t605 t629 t630 t631) else (samphirelaw12_IndexTwice.j1 kj4 a3 t608 t634 a3 true t596 t597 t598 t603 t604 t605 t629 t630 t631)) = some r := H
     have A34 := Aside0.mk A340
     clear A340
     have HC35 := Aside0.mk H
     clear H
     have hcz36_0 := ce BK587 0
     have hcz36_1 := ce BK587 1
     have hcz36_2 := ce BK587 2
     have hfz36_0 := fz BK587 0
     have hfz36_1 := fz BK587 1
     have hfz36_2 := fz BK587 2
     go_upto_if 79 with (first | ((with_reducible refine gate_callee (f := 13) rfl ?_); refine gl (some 38) Try.func13 #[.agg #[.int .u64 a0_0, .int .u64 a0_1, .slice A0_2 l0_2.length c0_2], .string a1, .int .i64 a2] ?_; (with_reducible refine (index_Put.calls kj4 a0_0 a0_1 (fun k_ => k_ < w.heap.size) _ _ l0_2 a1 a2 t596 t597 t598 t601 _ ?side1 A29.out).mono ?_); (case side1 => exact Kd.V_mk HC0_2.out (Kd.F_below (Kd.C_F k60_heap HR0_2.out) (pb HB))); rintro e w37 ⟨v599, rfl, ho0, hb⟩; refine ⟨_, rfl, ?_⟩; have n0_ := Aside0.mk (Kd.V_lower (Kd.V_mono (ok' := fun k_ => k_ ≠ gb587) ho0 (fun k_ hk_ => Or.elim hk_ (fun hs_ => fun e_ => Nat.not_le.2 hs_ (by rw [e_]; exact GW587.out)) (fun hn_ => (Kd.freshB (g := gb587) (o := .cells #[.int .u64 a0_0, .int .u64 a0_1, .slice A0_2 l0_2.length c0_2] 27 (0, 0)) (pk BK587.out) k_ hn_)))) (below_size (pb HB))); have n1_ := Aside0.mk (blk_below (pk BK587.out) hb); have n2_ := Aside0.mk (below_step (pb HB) hb); clear BK587; clear HB; have HO600 := n0_; have BK587 := n1_; have HB := n2_; clear n0_ n1_ n2_; (try clear hb); (try clear hb2); (try clear hk); (try clear hi); (try clear ho0)) | ((with_reducible refine gate_dst (N := 9) rfl ?_); (try (refine gate_guard (by rfl) ?_; dsimp only)); refine box_event ?hg (N := 9) ?hd (cs := #[.int .u64 0, .int .u64 0, .slice none 0 0]) (t := 27) ?hr ?_; (case hd => rfl); (case hg => rfl); (case hr => first | (go_simp; done) | (go_simp; rfl)); intro gb602 hg w38 hbox hb; have n0_ := Aside0.mk (Kd.V_below (Kd.V_elderB (pv HO600.out) gb602 (Nat.le_of_eq hg.symm)) hb); have n1_ := Aside0.mk (blk_below (pk BK587.out) hb); have n2_ := Aside0.mk (below_step (pb HB) hb); have n3_ := Aside0.mk (hbox); have n4_ := Aside0.mk ((pg hg HB : w.heap.size ≤ gb602)); have n5_ := Aside0.mk ((pg hg HB : w.heap.size ≤ gb602)); have n6_ := Aside0.mk ((pl hg (pk BK587.out) : gb587 ≠ gb602)); have n7_ := Aside0.mk ((pl' hg (pk BK587.out) : gb602 ≠ gb587)); clear HO600; clear BK587; clear HB; have HO600 := n0_; have BK587 := n1_; have HB := n2_; have BK602 := n3_; have GW602 := n4_; have GE602 := n5_; have NB587_602 := n6_; have NB602_587 := n7_; clear n0_ n1_ n2_ n3_ n4_ n5_ n6_ n7_; clear hb hbox hg; have hnb39 := NB602_587.out; have hnc39 := NB587_602.out; have hcz40_0 := ce BK602 0; have hcz40_1 := ce BK602 1; have hcz40_2 := ce BK602 2; have hfz40_0 := fz BK602 0; have hfz40_1 := fz BK602 1; have hfz40_2 := fz BK602 2; obtain ⟨Ao41, co41, eo41⟩ := Kd.V_slice HO600.out; subst eo41) | ((with_reducible refine gate_store (t := 27) (p := 9) rfl ?_); refine store_event (t := 27) (p := 9) (v := ?vo_w42) (w1 := (((w38.setCell ⟨gb602, 0, none⟩ (.int .u64 t596)).setCell ⟨gb602, 1, none⟩ (.int .u64 t597)).setCell ⟨gb602, 2, none⟩ (.slice Ao41 t598.length co41))) ?hg ?ho ?hn ?hr ?_; (case ho => rfl); (case hg => rfl); (case hn => rfl); (case hr => first | (go_simp; done) | (go_simp; rfl)); intro w42 hw; have n0_ : Aside0 (Kd.V k60 60 w42 w.heap.size (fun k_ => k_ ≠ gb587 ∧ k_ ≠ gb602) (.slice Ao41 t598.length co41) t598) := ⟨(by rw [hw]; exact (pv (Kd.V_mono (Kd.V_far (p := ⟨gb602, 2, none⟩) (Kd.V_far (p := ⟨gb602, 1, none⟩) (Kd.V_far (p := ⟨gb602, 0, none⟩) (Kd.V_mono HO600.out (fun k_ hk => (⟨hk, hk.2⟩ : _ ∧ k_ ≠ gb602))) (fun _ hk => hk.2) (.int .u64 t596)) (fun _ hk => hk.2) (.int .u64 t597)) (fun _ hk => hk.2) (.slice Ao41 t598.length co41)) (fun _ hk => ⟨hk.1.1, hk.1.2⟩))))⟩; have n1_ : Aside0 (w42.heap[gb587]? = some (.cells #[.int .u64 a0_0, .int .u64 a0_1, .slice A0_2 l0_2.length c0_2] 27 (0, 0))) := ⟨(by rw [hw]; exact (by refine pk ?_; refine blk_far ?_ NB587_602.out _; refine pk ?_; refine blk_far ?_ NB587_602.out _; refine pk ?_; refine blk_far ?_ NB587_602.out _; refine pk ?_; exact BK587.out))⟩; have n2_ : Aside0 (w42.heap[gb602]? = some (.cells #[.int .u64 t596, .int .u64 t597, .slice Ao41 t598.length co41] 27 (0, 0))) := ⟨(by rw [hw]; exact (by refine pk ?_; refine blk_put (cs := #[.int .u64 t596, .int .u64 t597, .slice none 0 0]) ?_ 2 _ rfl; refine pk ?_; refine blk_put (cs := #[.int .u64 t596, .int .u64 0, .slice none 0 0]) ?_ 1 _ rfl; refine pk ?_; refine blk_put (cs := #[.int .u64 0, .int .u64 0, .slice none 0 0]) ?_ 0 _ rfl; refine pk ?_; exact BK602.out))⟩; have n3_ : Aside0 (Below w.heap.size w w42) := ⟨(by rw [hw]; exact (pb HB))⟩; clear hw; clear HO600; clear BK587; clear BK602; clear HB; have HO600 := n0_; have BK587 := n1_; have BK602 := n2_; have HB := n3_; clear n0_ n1_ n2_ n3_; have hcz43_0 := ce BK602 0; have hcz43_1 := ce BK602 1; have hcz43_2 := ce BK602 2; have hfz43_0 := fz BK602 0; have hfz43_1 := fz BK602 1; have hfz43_2 := fz BK602 2) | ((with_reducible refine gate_callee (f := 13) rfl ?_); refine gl (some 45) Try.func13 #[.agg #[.int .u64 t596, .int .u64 t597, .slice Ao41 t598.length co41], .string a1, .int .i64 a2] ?_; (with_reducible refine (index_Put.calls kj4 t596 t597 (fun k_ => (k_ ≠ gb587 ∧ k_ ≠ gb602)) _ _ t598 a1 a2 t603 t604 t605 t608 _ ?side1 A30.out).mono ?_); (case side1 => exact HO600.out); rintro e w44 ⟨v606, rfl, ho0, hb⟩; refine ⟨_, rfl, ?_⟩; have n0_ := Aside0.mk (Kd.V_below (pv HO600.out) hb); have n1_ := Aside0.mk (Kd.V_lower (Kd.V_mono (ok' := fun k_ => k_ ≠ gb587 ∧ k_ ≠ gb602) ho0 (fun k_ hk_ => ⟨Or.elim hk_ (fun hs_ => hs_.1) (fun hn_ => (Kd.freshB (g := gb587) (o := .cells #[.int .u64 a0_0, .int .u64 a0_1, .slice A0_2 l0_2.length c0_2] 27 (0, 0)) (pk BK587.out) k_ hn_)), Or.elim hk_ (fun hs_ => hs_.2) (fun hn_ => (Kd.freshB (g := gb602) (o := .cells #[.int .u64 t596, .int .u64 t597, .slice Ao41 t598.length co41] 27 (0, 0)) (pk BK602.out) k_ hn_))⟩)) (below_size (pb HB))); have n2_ := Aside0.mk (blk_below (pk BK587.out) hb); have n3_ := Aside0.mk (blk_below (pk BK602.out) hb); have n4_ := Aside0.mk (below_step (pb HB) hb); clear HO600; clear BK587; clear BK602; clear HB; have HO600 := n0_; have HO607 := n1_; have BK587 := n2_; have BK602 := n3_; have HB := n4_; clear n0_ n1_ n2_ n3_ n4_; (try clear hb); (try clear hb2); (try clear hk); (try clear hi); (try clear ho0)) | ((with_reducible refine gate_dst (N := 11) rfl ?_); (try (refine gate_guard (by rfl) ?_; dsimp only)); refine box_event ?hg (N := 11) ?hd (cs := #[.int .u64 0, .int .u64 0, .slice none 0 0]) (t := 27) ?hr ?_; (case hd => rfl); (case hg => rfl); (case hr => first | (go_simp; done) | (go_simp; rfl)); intro gb609 hg w45 hbox hb; have n0_ := Aside0.mk (Kd.V_below (Kd.V_elderB (pv HO600.out) gb609 (Nat.le_of_eq hg.symm)) hb); have n1_ := Aside0.mk (Kd.V_below (Kd.V_elderB (pv HO607.out) gb609 (Nat.le_of_eq hg.symm)) hb); have n2_ := Aside0.mk (blk_below (pk BK587.out) hb); have n3_ := Aside0.mk (blk_below (pk BK602.out) hb); have n4_ := Aside0.mk (below_step (pb HB) hb); have n5_ := Aside0.mk (hbox); have n6_ := Aside0.mk ((pg hg HB : w.heap.size ≤ gb609)); have n7_ := Aside0.mk ((pg hg HB : w.heap.size ≤ gb609)); have n8_ := Aside0.mk ((pl hg (pk BK587.out) : gb587 ≠ gb609)); have n9_ := Aside0.mk ((pl' hg (pk BK587.out) : gb609 ≠ gb587)); have n10_ := Aside0.mk ((pl hg (pk BK602.out) : gb602 ≠ gb609)); have n11_ := Aside0.mk ((pl' hg (pk BK602.out) : gb609 ≠ gb602)); clear HO600; clear HO607; clear BK587; clear BK602; clear HB; have HO600 := n0_; have HO607 := n1_; have BK587 := n2_; have BK602 := n3_; have HB := n4_; have BK609 := n5_; have GW609 := n6_; have GE609 := n7_; have NB587_609 := n8_; have NB609_587 := n9_; have NB602_609 := n10_; have NB609_602 := n11_; clear n0_ n1_ n2_ n3_ n4_ n5_ n6_ n7_ n8_ n9_ n10_ n11_; clear hb hbox hg; have hnb46 := NB609_587.out; have hnc46 := NB587_609.out; have hnb47 := NB609_602.out; have hnc47 := NB602_609.out; have hcz48_0 := ce BK609 0; have hcz48_1 := ce BK609 1; have hcz48_2 := ce BK609 2; have hfz48_0 := fz BK609 0; have hfz48_1 := fz BK609 1; have hfz48_2 := fz BK609 2; obtain ⟨Ao49, co49, eo49⟩ := Kd.V_slice HO607.out; subst eo49) | ((with_reducible refine gate_store (t := 27) (p := 11) rfl ?_); refine store_event (t := 27) (p := 11) (v := ?vo_w50) (w1 := (((w45.setCell ⟨gb609, 0, none⟩ (.int .u64 t603)).setCell ⟨gb609, 1, none⟩ (.int .u64 t604)).setCell ⟨gb609, 2, none⟩ (.slice Ao49 t605.length co49))) ?hg ?ho ?hn ?hr ?_; (case ho => rfl); (case hg => rfl); (case hn => rfl); (case hr => first | (go_simp; done) | (go_simp; rfl)); intro w50 hw; have n0_ : Aside0 (Kd.V k60 60 w50 w.heap.size (fun k_ => k_ ≠ gb587 ∧ k_ ≠ gb602 ∧ k_ ≠ gb609) (.slice Ao41 t598.length co41) t598) := ⟨(by rw [hw]; exact (pv (Kd.V_mono (Kd.V_far (p := ⟨gb609, 2, none⟩) (Kd.V_far (p := ⟨gb609, 1, none⟩) (Kd.V_far (p := ⟨gb609, 0, none⟩) (Kd.V_mono HO600.out (fun k_ hk => (⟨hk, hk.2⟩ : _ ∧ k_ ≠ gb609))) (fun _ hk => hk.2) (.int .u64 t603)) (fun _ hk => hk.2) (.int .u64 t604)) (fun _ hk => hk.2) (.slice Ao49 t605.length co49)) (fun _ hk => ⟨hk.1.1.1, ⟨hk.1.1.2, hk.1.2⟩⟩))))⟩; have n1_ : Aside0 (Kd.V k60 60 w50 w.heap.size (fun k_ => k_ ≠ gb587 ∧ k_ ≠ gb602 ∧ k_ ≠ gb609) (.slice Ao49 t605.length co49) t605) := ⟨(by rw [hw]; exact (pv (Kd.V_mono (Kd.V_far (p := ⟨gb609, 2, none⟩) (Kd.V_far (p := ⟨gb609, 1, none⟩) (Kd.V_far (p := ⟨gb609, 0, none⟩) (Kd.V_mono HO607.out (fun k_ hk => (⟨hk, hk.2⟩ : _ ∧ k_ ≠ gb609))) (fun _ hk => hk.2) (.int .u64 t603)) (fun _ hk => hk.2) (.int .u64 t604)) (fun _ hk => hk.2) (.slice Ao49 t605.length co49)) (fun _ hk => ⟨hk.1.1.1, ⟨hk.1.1.2, hk.1.2⟩⟩))))⟩; have n2_ : Aside0 (w50.heap[gb587]? = some (.cells #[.int .u64 a0_0, .int .u64 a0_1, .slice A0_2 l0_2.length c0_2] 27 (0, 0))) := ⟨(by rw [hw]; exact (by refine pk ?_; refine blk_far ?_ NB587_609.out _; refine pk ?_; refine blk_far ?_ NB587_609.out _; refine pk ?_; refine blk_far ?_ NB587_609.out _; refine pk ?_; exact BK587.out))⟩; have n3_ : Aside0 (w50.heap[gb602]? = some (.cells #[.int .u64 t596, .int .u64 t597, .slice Ao41 t598.length co41] 27 (0, 0))) := ⟨(by rw [hw]; exact (by refine pk ?_; refine blk_far ?_ NB602_609.out _; refine pk ?_; refine blk_far ?_ NB602_609.out _; refine pk ?_; refine blk_far ?_ NB602_609.out _; refine pk ?_; exact BK602.out))⟩; have n4_ : Aside0 (w50.heap[gb609]? = some (.cells #[.int .u64 t603, .int .u64 t604, .slice Ao49 t605.length co49] 27 (0, 0))) := ⟨(by rw [hw]; exact (by refine pk ?_; refine blk_put (cs := #[.int .u64 t603, .int .u64 t604, .slice none 0 0]) ?_ 2 _ rfl; refine pk ?_; refine blk_put (cs := #[.int .u64 t603, .int .u64 0, .slice none 0 0]) ?_ 1 _ rfl; refine pk ?_; refine blk_put (cs := #[.int .u64 0, .int .u64 0, .slice none 0 0]) ?_ 0 _ rfl; refine pk ?_; exact BK609.out))⟩; have n5_ : Aside0 (Below w.heap.size w w50) := ⟨(by rw [hw]; exact (pb HB))⟩; clear hw; clear HO600; clear HO607; clear BK587; clear BK602; clear BK609; clear HB; have HO600 := n0_; have HO607 := n1_; have BK587 := n2_; have BK602 := n3_; have BK609 := n4_; have HB := n5_; clear n0_ n1_ n2_ n3_ n4_ n5_; have hcz51_0 := ce BK609 0; have hcz51_1 := ce BK609 1; have hcz51_2 := ce BK609 2; have hfz51_0 := fz BK609 0; have hfz51_1 := fz BK609 1; have hfz51_2 := fz BK609 2) | ((with_reducible refine gate_callee (f := 13) rfl ?_); refine gl (some 62) Try.func13 #[.agg #[.int .u64 t603, .int .u64 t604, .slice Ao49 t605.length co49], .string a1, .int .i64 a3] ?_; (with_reducible refine (index_Put.calls kj4 t603 t604 (fun k_ => (k_ ≠ gb587 ∧ (k_ ≠ gb602 ∧ k_ ≠ gb609))) _ _ t605 a1 a3 t622 t623 t624 t627 _ ?side1 A32.out).mono ?_); (case side1 => exact HO607.out); rintro e w52 ⟨v625, rfl, ho0, hb⟩; refine ⟨_, rfl, ?_⟩; have n0_ := Aside0.mk (Kd.V_below (pv HO600.out) hb); have n1_ := Aside0.mk (Kd.V_below (pv HO607.out) hb); have n2_ := Aside0.mk (Kd.V_lower (Kd.V_mono (ok' := fun k_ => k_ ≠ gb587 ∧ k_ ≠ gb602 ∧ k_ ≠ gb609) ho0 (fun k_ hk_ => ⟨Or.elim hk_ (fun hs_ => hs_.1) (fun hn_ => (Kd.freshB (g := gb587) (o := .cells #[.int .u64 a0_0, .int .u64 a0_1, .slice A0_2 l0_2.length c0_2] 27 (0, 0)) (pk BK587.out) k_ hn_)), Or.elim hk_ (fun hs_ => hs_.2.1) (fun hn_ => (Kd.freshB (g := gb602) (o := .cells #[.int .u64 t596, .int .u64 t597, .slice Ao41 t598.length co41] 27 (0, 0)) (pk BK602.out) k_ hn_)), Or.elim hk_ (fun hs_ => hs_.2.2) (fun hn_ => (Kd.freshB (g := gb609) (o := .cells #[.int .u64 t603, .int .u64 t604, .slice Ao49 t605.length co49] 27 (0, 0)) (pk BK609.out) k_ hn_))⟩)) (below_size (pb HB))); have n3_ := Aside0.mk (blk_below (pk BK587.out) hb); have n4_ := Aside0.mk (blk_below (pk BK602.out) hb); have n5_ := Aside0.mk (blk_below (pk BK609.out) hb); have n6_ := Aside0.mk (below_step (pb HB) hb); clear HO600; clear HO607; clear BK587; clear BK602; clear BK609; clear HB; have HO600 := n0_; have HO607 := n1_; have HO626 := n2_; have BK587 := n3_; have BK602 := n4_; have BK609 := n5_; have HB := n6_; clear n0_ n1_ n2_ n3_ n4_ n5_ n6_; (try clear hb); (try clear hb2); (try clear hk); (try clear hi); (try clear ho0)) | ((with_reducible refine gate_dst (N := 13) rfl ?_); (try (refine gate_guard (by rfl) ?_; dsimp only)); refine box_event ?hg (N := 13) ?hd (cs := #[.int .u64 0, .int .u64 0, .slice none 0 0]) (t := 27) ?hr ?_; (case hd => rfl); (case hg => rfl); (case hr => first | (go_simp; done) | (go_simp; rfl)); intro gb628 hg w53 hbox hb; have n0_ := Aside0.mk (Kd.V_below (Kd.V_elderB (pv HO600.out) gb628 (Nat.le_of_eq hg.symm)) hb); have n1_ := Aside0.mk (Kd.V_below (Kd.V_elderB (pv HO607.out) gb628 (Nat.le_of_eq hg.symm)) hb); have n2_ := Aside0.mk (Kd.V_below (Kd.V_elderB (pv HO626.out) gb628 (Nat.le_of_eq hg.symm)) hb); have n3_ := Aside0.mk (blk_below (pk BK587.out) hb); have n4_ := Aside0.mk (blk_below (pk BK602.out) hb); have n5_ := Aside0.mk (blk_below (pk BK609.out) hb); have n6_ := Aside0.mk (below_step (pb HB) hb); have n7_ := Aside0.mk (hbox); have n8_ := Aside0.mk ((pg hg HB : w.heap.size ≤ gb628)); have n9_ := Aside0.mk ((pg hg HB : w.heap.size ≤ gb628)); have n10_ := Aside0.mk ((pl hg (pk BK587.out) : gb587 ≠ gb628)); have n11_ := Aside0.mk ((pl' hg (pk BK587.out) : gb628 ≠ gb587)); have n12_ := Aside0.mk ((pl hg (pk BK602.out) : gb602 ≠ gb628)); have n13_ := Aside0.mk ((pl' hg (pk BK602.out) : gb628 ≠ gb602)); have n14_ := Aside0.mk ((pl hg (pk BK609.out) : gb609 ≠ gb628)); have n15_ := Aside0.mk ((pl' hg (pk BK609.out) : gb628 ≠ gb609)); clear HO600; clear HO607; clear HO626; clear BK587; clear BK602; clear BK609; clear HB; have HO600 := n0_; have HO607 := n1_; have HO626 := n2_; have BK587 := n3_; have BK602 := n4_; have BK609 := n5_; have HB := n6_; have BK628 := n7_; have GW628 := n8_; have GE628 := n9_; have NB587_628 := n10_; have NB628_587 := n11_; have NB602_628 := n12_; have NB628_602 := n13_; have NB609_628 := n14_; have NB628_609 := n15_; clear n0_ n1_ n2_ n3_ n4_ n5_ n6_ n7_ n8_ n9_ n10_ n11_ n12_ n13_ n14_ n15_; clear hb hbox hg; have hnb54 := NB628_587.out; have hnc54 := NB587_628.out; have hnb55 := NB628_602.out; have hnc55 := NB602_628.out; have hnb56 := NB628_609.out; have hnc56 := NB609_628.out; have hcz57_0 := ce BK628 0; have hcz57_1 := ce BK628 1; have hcz57_2 := ce BK628 2; have hfz57_0 := fz BK628 0; have hfz57_1 := fz BK628 1; have hfz57_2 := fz BK628 2; obtain ⟨Ao58, co58, eo58⟩ := Kd.V_slice HO626.out; subst eo58) | ((with_reducible refine gate_store (t := 27) (p := 13) rfl ?_); refine store_event (t := 27) (p := 13) (v := ?vo_w59) (w1 := (((w53.setCell ⟨gb628, 0, none⟩ (.int .u64 t622)).setCell ⟨gb628, 1, none⟩ (.int .u64 t623)).setCell ⟨gb628, 2, none⟩ (.slice Ao58 t624.length co58))) ?hg ?ho ?hn ?hr ?_; (case ho => rfl); (case hg => rfl); (case hn => rfl); (case hr => first | (go_simp; done) | (go_simp; rfl)); intro w59 hw; have n0_ : Aside0 (Kd.V k60 60 w59 w.heap.size (fun k_ => k_ ≠ gb587 ∧ k_ ≠ gb602 ∧ k_ ≠ gb609 ∧ k_ ≠ gb628) (.slice Ao41 t598.length co41) t598) := ⟨(by rw [hw]; exact (pv (Kd.V_mono (Kd.V_far (p := ⟨gb628, 2, none⟩) (Kd.V_far (p := ⟨gb628, 1, none⟩) (Kd.V_far (p := ⟨gb628, 0, none⟩) (Kd.V_mono HO600.out (fun k_ hk => (⟨hk, hk.2⟩ : _ ∧ k_ ≠ gb628))) (fun _ hk => hk.2) (.int .u64 t622)) (fun _ hk => hk.2) (.int .u64 t623)) (fun _ hk => hk.2) (.slice Ao58 t624.length co58)) (fun _ hk => ⟨hk.1.1.1, ⟨hk.1.1.2.1, ⟨hk.1.1.2.2, hk.1.2⟩⟩⟩))))⟩; have n1_ : Aside0 (Kd.V k60 60 w59 w.heap.size (fun k_ => k_ ≠ gb587 ∧ k_ ≠ gb602 ∧ k_ ≠ gb609 ∧ k_ ≠ gb628) (.slice Ao49 t605.length co49) t605) := ⟨(by rw [hw]; exact (pv (Kd.V_mono (Kd.V_far (p := ⟨gb628, 2, none⟩) (Kd.V_far (p := ⟨gb628, 1, none⟩) (Kd.V_far (p := ⟨gb628, 0, none⟩) (Kd.V_mono HO607.out (fun k_ hk => (⟨hk, hk.2⟩ : _ ∧ k_ ≠ gb628))) (fun _ hk => hk.2) (.int .u64 t622)) (fun _ hk => hk.2) (.int .u64 t623)) (fun _ hk => hk.2) (.slice Ao58 t624.length co58)) (fun _ hk => ⟨hk.1.1.1, ⟨hk.1.1.2.1, ⟨hk.1.1.2.2, hk.1.2⟩⟩⟩))))⟩; have n2_ : Aside0 (Kd.V k60 60 w59 w.heap.size (fun k_ => k_ ≠ gb587 ∧ k_ ≠ gb602 ∧ k_ ≠ gb609 ∧ k_ ≠ gb628) (.slice Ao58 t624.length co58) t624) := ⟨(by rw [hw]; exact (pv (Kd.V_mono (Kd.V_far (p := ⟨gb628, 2, none⟩) (Kd.V_far (p := ⟨gb628, 1, none⟩) (Kd.V_far (p := ⟨gb628, 0, none⟩) (Kd.V_mono HO626.out (fun k_ hk => (⟨hk, hk.2⟩ : _ ∧ k_ ≠ gb628))) (fun _ hk => hk.2) (.int .u64 t622)) (fun _ hk => hk.2) (.int .u64 t623)) (fun _ hk => hk.2) (.slice Ao58 t624.length co58)) (fun _ hk => ⟨hk.1.1.1, ⟨hk.1.1.2.1, ⟨hk.1.1.2.2, hk.1.2⟩⟩⟩))))⟩; have n3_ : Aside0 (w59.heap[gb587]? = some (.cells #[.int .u64 a0_0, .int .u64 a0_1, .slice A0_2 l0_2.length c0_2] 27 (0, 0))) := ⟨(by rw [hw]; exact (by refine pk ?_; refine blk_far ?_ NB587_628.out _; refine pk ?_; refine blk_far ?_ NB587_628.out _; refine pk ?_; refine blk_far ?_ NB587_628.out _; refine pk ?_; exact BK587.out))⟩; have n4_ : Aside0 (w59.heap[gb602]? = some (.cells #[.int .u64 t596, .int .u64 t597, .slice Ao41 t598.length co41] 27 (0, 0))) := ⟨(by rw [hw]; exact (by refine pk ?_; refine blk_far ?_ NB602_628.out _; refine pk ?_; refine blk_far ?_ NB602_628.out _; refine pk ?_; refine blk_far ?_ NB602_628.out _; refine pk ?_; exact BK602.out))⟩; have n5_ : Aside0 (w59.heap[gb609]? = some (.cells #[.int .u64 t603, .int .u64 t604, .slice Ao49 t605.length co49] 27 (0, 0))) := ⟨(by rw [hw]; exact (by refine pk ?_; refine blk_far ?_ NB609_628.out _; refine pk ?_; refine blk_far ?_ NB609_628.out _; refine pk ?_; refine blk_far ?_ NB609_628.out _; refine pk ?_; exact BK609.out))⟩; have n6_ : Aside0 (w59.heap[gb628]? = some (.cells #[.int .u64 t622, .int .u64 t623, .slice Ao58 t624.length co58] 27 (0, 0))) := ⟨(by rw [hw]; exact (by refine pk ?_; refine blk_put (cs := #[.int .u64 t622, .int .u64 t623, .slice none 0 0]) ?_ 2 _ rfl; refine pk ?_; refine blk_put (cs := #[.int .u64 t622, .int .u64 0, .slice none 0 0]) ?_ 1 _ rfl; refine pk ?_; refine blk_put (cs := #[.int .u64 0, .int .u64 0, .slice none 0 0]) ?_ 0 _ rfl; refine pk ?_; exact BK628.out))⟩; have n7_ : Aside0 (Below w.heap.size w w59) := ⟨(by rw [hw]; exact (pb HB))⟩; clear hw; clear HO600; clear HO607; clear HO626; clear BK587; clear BK602; clear BK609; clear BK628; clear HB; have HO600 := n0_; have HO607 := n1_; have HO626 := n2_; have BK587 := n3_; have BK602 := n4_; have BK609 := n5_; have BK628 := n6_; have HB := n7_; clear n0_ n1_ n2_ n3_ n4_ n5_ n6_ n7_; have hcz60_0 := ce BK628 0; have hcz60_1 := ce BK628 1; have hcz60_2 := ce BK628 2; have hfz60_0 := fz BK628 0; have hfz60_1 := fz BK628 1; have hfz60_2 := fz BK628 2) | ((with_reducible refine gate_callee (f := 13) rfl ?_); refine gl (some 69) Try.func13 #[.agg #[.int .u64 t622, .int .u64 t623, .slice Ao58 t624.length co58], .string a1, .int .i64 a2] ?_; (with_reducible refine (index_Put.calls kj4 t622 t623 (fun k_ => (k_ ≠ gb587 ∧ (k_ ≠ gb602 ∧ (k_ ≠ gb609 ∧ k_ ≠ gb628)))) _ _ t624 a1 a2 t629 t630 t631 t634 _ ?side1 A33.out).mono ?_); (case side1 => exact HO626.out); rintro e w61 ⟨v632, rfl, ho0, hb⟩; refine ⟨_, rfl, ?_⟩; have n0_ := Aside0.mk (Kd.V_below (pv HO600.out) hb); have n1_ := Aside0.mk (Kd.V_below (pv HO607.out) hb); have n2_ := Aside0.mk (Kd.V_below (pv HO626.out) hb); have n3_ := Aside0.mk (Kd.V_lower (Kd.V_mono (ok' := fun k_ => k_ ≠ gb587 ∧ k_ ≠ gb602 ∧ k_ ≠ gb609 ∧ k_ ≠ gb628) ho0 (fun k_ hk_ => ⟨Or.elim hk_ (fun hs_ => hs_.1) (fun hn_ => (Kd.freshB (g := gb587) (o := .cells #[.int .u64 a0_0, .int .u64 a0_1, .slice A0_2 l0_2.length c0_2] 27 (0, 0)) (pk BK587.out) k_ hn_)), Or.elim hk_ (fun hs_ => hs_.2.1) (fun hn_ => (Kd.freshB (g := gb602) (o := .cells #[.int .u64 t596, .int .u64 t597, .slice Ao41 t598.length co41] 27 (0, 0)) (pk BK602.out) k_ hn_)), Or.elim hk_ (fun hs_ => hs_.2.2.1) (fun hn_ => (Kd.freshB (g := gb609) (o := .cells #[.int .u64 t603, .int .u64 t604, .slice Ao49 t605.length co49] 27 (0, 0)) (pk BK609.out) k_ hn_)), Or.elim hk_ (fun hs_ => hs_.2.2.2) (fun hn_ => (Kd.freshB (g := gb628) (o := .cells #[.int .u64 t622, .int .u64 t623, .slice Ao58 t624.length co58] 27 (0, 0)) (pk BK628.out) k_ hn_))⟩)) (below_size (pb HB))); have n4_ := Aside0.mk (blk_below (pk BK587.out) hb); have n5_ := Aside0.mk (blk_below (pk BK602.out) hb); have n6_ := Aside0.mk (blk_below (pk BK609.out) hb); have n7_ := Aside0.mk (blk_below (pk BK628.out) hb); have n8_ := Aside0.mk (below_step (pb HB) hb); clear HO600; clear HO607; clear HO626; clear BK587; clear BK602; clear BK609; clear BK628; clear HB; have HO600 := n0_; have HO607 := n1_; have HO626 := n2_; have HO633 := n3_; have BK587 := n4_; have BK602 := n5_; have BK609 := n6_; have BK628 := n7_; have HB := n8_; clear n0_ n1_ n2_ n3_ n4_ n5_ n6_ n7_ n8_; (try clear hb); (try clear hb2); (try clear hk); (try clear hi); (try clear ho0)) | ((with_reducible refine gate_dst (N := 15) rfl ?_); (try (refine gate_guard (by rfl) ?_; dsimp only)); refine box_event ?hg (N := 15) ?hd (cs := #[.int .u64 0, .int .u64 0, .slice none 0 0]) (t := 27) ?hr ?_; (case hd => rfl); (case hg => rfl); (case hr => first | (go_simp; done) | (go_simp; rfl)); intro gb635 hg w62 hbox hb; have n0_ := Aside0.mk (Kd.V_below (Kd.V_elderB (pv HO600.out) gb635 (Nat.le_of_eq hg.symm)) hb); have n1_ := Aside0.mk (Kd.V_below (Kd.V_elderB (pv HO607.out) gb635 (Nat.le_of_eq hg.symm)) hb); have n2_ := Aside0.mk (Kd.V_below (Kd.V_elderB (pv HO626.out) gb635 (Nat.le_of_eq hg.symm)) hb); have n3_ := Aside0.mk (Kd.V_below (Kd.V_elderB (pv HO633.out) gb635 (Nat.le_of_eq hg.symm)) hb); have n4_ := Aside0.mk (blk_below (pk BK587.out) hb); have n5_ := Aside0.mk (blk_below (pk BK602.out) hb); have n6_ := Aside0.mk (blk_below (pk BK609.out) hb); have n7_ := Aside0.mk (blk_below (pk BK628.out) hb); have n8_ := Aside0.mk (below_step (pb HB) hb); have n9_ := Aside0.mk (hbox); have n10_ := Aside0.mk ((pg hg HB : w.heap.size ≤ gb635)); have n11_ := Aside0.mk ((pg hg HB : w.heap.size ≤ gb635)); have n12_ := Aside0.mk ((pl hg (pk BK587.out) : gb587 ≠ gb635)); have n13_ := Aside0.mk ((pl' hg (pk BK587.out) : gb635 ≠ gb587)); have n14_ := Aside0.mk ((pl hg (pk BK602.out) : gb602 ≠ gb635)); have n15_ := Aside0.mk ((pl' hg (pk BK602.out) : gb635 ≠ gb602)); have n16_ := Aside0.mk ((pl hg (pk BK609.out) : gb609 ≠ gb635)); have n17_ := Aside0.mk ((pl' hg (pk BK609.out) : gb635 ≠ gb609)); have n18_ := Aside0.mk ((pl hg (pk BK628.out) : gb628 ≠ gb635)); have n19_ := Aside0.mk ((pl' hg (pk BK628.out) : gb635 ≠ gb628)); clear HO600; clear HO607; clear HO626; clear HO633; clear BK587; clear BK602; clear BK609; clear BK628; clear HB; have HO600 := n0_; have HO607 := n1_; have HO626 := n2_; have HO633 := n3_; have BK587 := n4_; have BK602 := n5_; have BK609 := n6_; have BK628 := n7_; have HB := n8_; have BK635 := n9_; have GW635 := n10_; have GE635 := n11_; have NB587_635 := n12_; have NB635_587 := n13_; have NB602_635 := n14_; have NB635_602 := n15_; have NB609_635 := n16_; have NB635_609 := n17_; have NB628_635 := n18_; have NB635_628 := n19_; clear n0_ n1_ n2_ n3_ n4_ n5_ n6_ n7_ n8_ n9_ n10_ n11_ n12_ n13_ n14_ n15_ n16_ n17_ n18_ n19_; clear hb hbox hg; have hnb63 := NB635_587.out; have hnc63 := NB587_635.out; have hnb64 := NB635_602.out; have hnc64 := NB602_635.out; have hnb65 := NB635_609.out; have hnc65 := NB609_635.out; have hnb66 := NB635_628.out; have hnc66 := NB628_635.out; have hcz67_0 := ce BK635 0; have hcz67_1 := ce BK635 1; have hcz67_2 := ce BK635 2; have hfz67_0 := fz BK635 0; have hfz67_1 := fz BK635 1; have hfz67_2 := fz BK635 2; obtain ⟨Ao68, co68, eo68⟩ := Kd.V_slice HO633.out; subst eo68; have hcz69_0 := ce BK628 0; have hcz69_1 := ce BK628 1; have hcz69_2 := ce BK628 2; have hfz69_0 := fz BK628 0; have hfz69_1 := fz BK628 1; have hfz69_2 := fz BK628 2) | ((with_reducible refine gate_callee (f := 12) rfl ?_); refine gl (some 75) Try.func12 #[.agg #[.int .u64 t622, .int .u64 t623, .slice Ao58 t624.length co58], .string a1] ?_; (with_reducible refine (index_Get.calls kj4 t622 t623 _ _ t624 a1 t636 t637 _ ?side1 ?side2 A34.out).mono ?_); (case side1 => refine (Kd.V_reads' (e := 60) (base := w.heap.size) (ok := fun k_ => ((k_ ≠ gb587 ∧ (k_ ≠ gb602 ∧ (k_ ≠ gb609 ∧ k_ ≠ gb628))) ∧ k_ ≠ gb635)) (n := t624.length) (c := co58) ?_).2.2; exact (pv ((Kd.V_mono (Kd.V_far (p := ⟨gb635, 2, none⟩) (Kd.V_far (p := ⟨gb635, 1, none⟩) (Kd.V_far (p := ⟨gb635, 0, none⟩) (Kd.V_mono HO626.out (fun k_ hk => (⟨hk, hk.2⟩ : _ ∧ k_ ≠ gb635))) (fun _ hk => hk.2) (.int .u64 t629)) (fun _ hk => hk.2) (.int .u64 t630)) (fun _ hk => hk.2) (.slice Ao68 t631.length co68)) (fun _ h_ => h_.1))))); (case side2 => exact (Kd.V_reads' HO626.out).2.1); rintro e w70 ⟨rfl, hb⟩; refine ⟨_, rfl, ?_⟩; have n0_ := Aside0.mk (Kd.V_below (pv ((Kd.V_mono (Kd.V_far (p := ⟨gb635, 2, none⟩) (Kd.V_far (p := ⟨gb635, 1, none⟩) (Kd.V_far (p := ⟨gb635, 0, none⟩) (Kd.V_mono HO600.out (fun k_ hk => (⟨hk, hk.2⟩ : _ ∧ k_ ≠ gb635))) (fun _ hk => hk.2) (.int .u64 t629)) (fun _ hk => hk.2) (.int .u64 t630)) (fun _ hk => hk.2) (.slice Ao68 t631.length co68)) (fun _ h_ => h_.1)))) hb); have n1_ := Aside0.mk (Kd.V_below (pv ((Kd.V_mono (Kd.V_far (p := ⟨gb635, 2, none⟩) (Kd.V_far (p := ⟨gb635, 1, none⟩) (Kd.V_far (p := ⟨gb635, 0, none⟩) (Kd.V_mono HO607.out (fun k_ hk => (⟨hk, hk.2⟩ : _ ∧ k_ ≠ gb635))) (fun _ hk => hk.2) (.int .u64 t629)) (fun _ hk => hk.2) (.int .u64 t630)) (fun _ hk => hk.2) (.slice Ao68 t631.length co68)) (fun _ h_ => h_.1)))) hb); have n2_ := Aside0.mk (Kd.V_below (pv ((Kd.V_mono (Kd.V_far (p := ⟨gb635, 2, none⟩) (Kd.V_far (p := ⟨gb635, 1, none⟩) (Kd.V_far (p := ⟨gb635, 0, none⟩) (Kd.V_mono HO626.out (fun k_ hk => (⟨hk, hk.2⟩ : _ ∧ k_ ≠ gb635))) (fun _ hk => hk.2) (.int .u64 t629)) (fun _ hk => hk.2) (.int .u64 t630)) (fun _ hk => hk.2) (.slice Ao68 t631.length co68)) (fun _ h_ => h_.1)))) hb); have n3_ := Aside0.mk (Kd.V_below (pv ((Kd.V_mono (Kd.V_far (p := ⟨gb635, 2, none⟩) (Kd.V_far (p := ⟨gb635, 1, none⟩) (Kd.V_far (p := ⟨gb635, 0, none⟩) (Kd.V_mono HO633.out (fun k_ hk => (⟨hk, hk.2⟩ : _ ∧ k_ ≠ gb635))) (fun _ hk => hk.2) (.int .u64 t629)) (fun _ hk => hk.2) (.int .u64 t630)) (fun _ hk => hk.2) (.slice Ao68 t631.length co68)) (fun _ h_ => h_.1)))) hb); have n4_ := Aside0.mk (blk_below (g := gb587) (o := .cells #[.int .u64 a0_0, .int .u64 a0_1, .slice A0_2 l0_2.length c0_2] 27 (0, 0)) (by refine pk ?_; refine blk_far ?_ NB587_635.out _; refine pk ?_; refine blk_far ?_ NB587_635.out _; refine pk ?_; refine blk_far ?_ NB587_635.out _; refine pk ?_; exact BK587.out) hb); have n5_ := Aside0.mk (blk_below (g := gb602) (o := .cells #[.int .u64 t596, .int .u64 t597, .slice Ao41 t598.length co41] 27 (0, 0)) (by refine pk ?_; refine blk_far ?_ NB602_635.out _; refine pk ?_; refine blk_far ?_ NB602_635.out _; refine pk ?_; refine blk_far ?_ NB602_635.out _; refine pk ?_; exact BK602.out) hb); have n6_ := Aside0.mk (blk_below (g := gb609) (o := .cells #[.int .u64 t603, .int .u64 t604, .slice Ao49 t605.length co49] 27 (0, 0)) (by refine pk ?_; refine blk_far ?_ NB609_635.out _; refine pk ?_; refine blk_far ?_ NB609_635.out _; refine pk ?_; refine blk_far ?_ NB609_635.out _; refine pk ?_; exact BK609.out) hb); have n7_ := Aside0.mk (blk_below (g := gb628) (o := .cells #[.int .u64 t622, .int .u64 t623, .slice Ao58 t624.length co58] 27 (0, 0)) (by refine pk ?_; refine blk_far ?_ NB628_635.out _; refine pk ?_; refine blk_far ?_ NB628_635.out _; refine pk ?_; refine blk_far ?_ NB628_635.out _; refine pk ?_; exact BK628.out) hb); have n8_ := Aside0.mk (blk_below (g := gb635) (o := .cells #[.int .u64 t629, .int .u64 t630, .slice Ao68 t631.length co68] 27 (0, 0)) (by refine pk ?_; refine blk_put (cs := #[.int .u64 t629, .int .u64 t630, .slice none 0 0]) ?_ 2 _ rfl; refine pk ?_; refine blk_put (cs := #[.int .u64 t629, .int .u64 0, .slice none 0 0]) ?_ 1 _ rfl; refine pk ?_; refine blk_put (cs := #[.int .u64 0, .int .u64 0, .slice none 0 0]) ?_ 0 _ rfl; refine pk ?_; exact BK635.out) hb); have n9_ := Aside0.mk (below_step (pb HB) hb); clear HO600; clear HO607; clear HO626; clear HO633; clear BK587; clear BK602; clear BK609; clear BK628; clear BK635; clear HB; have HO600 := n0_; have HO607 := n1_; have HO626 := n2_; have HO633 := n3_; have BK587 := n4_; have BK602 := n5_; have BK609 := n6_; have BK628 := n7_; have BK635 := n8_; have HB := n9_; clear n0_ n1_ n2_ n3_ n4_ n5_ n6_ n7_ n8_ n9_; (try clear hb); (try clear hb2); (try clear hk); (try clear hi)))
     (try simp only [Act.put, List.setIfInBounds_toArray, List.set_cons_zero, List.set_cons_succ])
     go_cut [17, 18] (fun v17 v18 wc => ∃ (kq : Nat) (x17_34 : Int) (x18_34 : Bool), v17 = .int .i64 x17_34 ∧ v18 = .bool x18_34 ∧ Aside0 (samphirelaw12_IndexTwice.j1 kq a3 t608 t634 x17_34 x18_34 t596 t597 t598 t603 t604 t605 t629 t630 t631 = some r) ∧ Aside0 (kq ≤ kj4) ∧ Aside0 (Kd.V k60 60 wc w.heap.size (fun k_ => k_ ≠ gb587 ∧ k_ ≠ gb602 ∧ k_ ≠ gb609 ∧ k_ ≠ gb628 ∧ k_ ≠ gb635) (.slice Ao41 t598.length co41) t598) ∧ Aside0 (Kd.V k60 60 wc w.heap.size (fun k_ => k_ ≠ gb587 ∧ k_ ≠ gb602 ∧ k_ ≠ gb609 ∧ k_ ≠ gb628 ∧ k_ ≠ gb635) (.slice Ao49 t605.length co49) t605) ∧ Aside0 (Kd.V k60 60 wc w.heap.size (fun k_ => k_ ≠ gb587 ∧ k_ ≠ gb602 ∧ k_ ≠ gb609 ∧ k_ ≠ gb628 ∧ k_ ≠ gb635) (.slice Ao58 t624.length co58) t624) ∧ Aside0 (Kd.V k60 60 wc w.heap.size (fun k_ => k_ ≠ gb587 ∧ k_ ≠ gb602 ∧ k_ ≠ gb609 ∧ k_ ≠ gb628 ∧ k_ ≠ gb635) (.slice Ao68 t631.length co68) t631) ∧ Aside0 (wc.heap[gb587]? = some (.cells #[.int .u64 a0_0, .int .u64 a0_1, (.slice A0_2 l0_2.length c0_2)] 27 (0, 0))) ∧ Aside0 (wc.heap[gb602]? = some (.cells #[.int .u64 t596, .int .u64 t597, (.slice Ao41 t598.length co41)] 27 (0, 0))) ∧ Aside0 (wc.heap[gb609]? = some (.cells #[.int .u64 t603, .int .u64 t604, (.slice Ao49 t605.length co49)] 27 (0, 0))) ∧ Aside0 (wc.heap[gb628]? = some (.cells #[.int .u64 t622, .int .u64 t623, (.slice Ao58 t624.length co58)] 27 (0, 0))) ∧ Aside0 (wc.heap[gb635]? = some (.cells #[.int .u64 t629, .int .u64 t630, (.slice Ao68 t631.length co68)] 27 (0, 0))) ∧ Aside0 (Below w.heap.size w wc))
     case first =>
      have H := HC35.out
      clear HC35
      by_cases c71 : t627 = 0
      ·rw [if_pos c71] at H
       have c71b0 : (t627 == 0) = true := beq_iff_eq.mpr c71
       have c71b1 : (t627 != 0) = false := bne_eq_false_iff_eq.mpr c71
       clear c71
       (first | rw [c71b0] | (simp only [i64_w, i32_w]; rw [c71b0]) | skip)
       have H' := Aside0.mk H
       clear H
       go_wp2
       go_meet
       case rel => exact ⟨_, (t636), (t637), (by first | rfl | (simp; done) | (simp [*]; done)), (by first | rfl | (simp; done) | (simp [*]; done)), H', ⟨by have := HJ4.out; first | omega | exact Nat.le_refl _⟩, ⟨by refine pv ?_; exact Kd.V_mono HO600.out (fun _ hk => ⟨hk.1.1, ⟨hk.1.2.1, ⟨hk.1.2.2.1, ⟨hk.1.2.2.2, hk.2⟩⟩⟩⟩)⟩, ⟨by refine pv ?_; exact Kd.V_mono HO607.out (fun _ hk => ⟨hk.1.1, ⟨hk.1.2.1, ⟨hk.1.2.2.1, ⟨hk.1.2.2.2, hk.2⟩⟩⟩⟩)⟩, ⟨by refine pv ?_; exact Kd.V_mono HO626.out (fun _ hk => ⟨hk.1.1, ⟨hk.1.2.1, ⟨hk.1.2.2.1, ⟨hk.1.2.2.2, hk.2⟩⟩⟩⟩)⟩, ⟨by refine pv ?_; exact Kd.V_mono HO633.out (fun _ hk => ⟨hk.1.1, ⟨hk.1.2.1, ⟨hk.1.2.2.1, ⟨hk.1.2.2.2, hk.2⟩⟩⟩⟩)⟩, ⟨pk BK587.out⟩, ⟨pk BK602.out⟩, ⟨pk BK609.out⟩, ⟨pk BK628.out⟩, ⟨pk BK635.out⟩, ⟨pb HB⟩⟩
      ·rw [if_neg c71] at H
       have c71b0 : (t627 == 0) = false := beq_eq_false_iff_ne.mpr c71
       have c71b1 : (t627 != 0) = true := bne_iff_ne.mpr c71
       (first | rw [c71b0] | (simp only [i64_w, i32_w]; rw [c71b0]) | skip)
       have H' := Aside0.mk H
       clear H
       go_wp2
       go_meet
       case rel => exact ⟨_, (a3), (true), (by first | rfl | (simp; done) | (simp [*]; done)), (by first | rfl | (simp; done) | (simp [*]; done)), H', ⟨by have := HJ4.out; first | omega | exact Nat.le_refl _⟩, ⟨by refine pv ?_; exact Kd.V_mono HO600.out (fun _ hk => ⟨hk.1.1, ⟨hk.1.2.1, ⟨hk.1.2.2.1, ⟨hk.1.2.2.2, hk.2⟩⟩⟩⟩)⟩, ⟨by refine pv ?_; exact Kd.V_mono HO607.out (fun _ hk => ⟨hk.1.1, ⟨hk.1.2.1, ⟨hk.1.2.2.1, ⟨hk.1.2.2.2, hk.2⟩⟩⟩⟩)⟩, ⟨by refine pv ?_; exact Kd.V_mono HO626.out (fun _ hk => ⟨hk.1.1, ⟨hk.1.2.1, ⟨hk.1.2.2.1, ⟨hk.1.2.2.2, hk.2⟩⟩⟩⟩)⟩, ⟨by refine pv ?_; exact Kd.V_mono HO633.out (fun _ hk => ⟨hk.1.1, ⟨hk.1.2.1, ⟨hk.1.2.2.1, ⟨hk.1.2.2.2, hk.2⟩⟩⟩⟩)⟩, ⟨pk BK587.out⟩, ⟨pk BK602.out⟩, ⟨pk BK609.out⟩, ⟨pk BK628.out⟩, ⟨pk BK635.out⟩, ⟨pb HB⟩⟩
     case rest =>
      clear HC35
      try clear c1
      try clear c2
      try clear p2
      try clear c3
      try clear c4
      try clear c5
      try clear c6
      try clear c7
      try clear c8
      try clear c9
      try clear c10
      try clear c10b0
      try clear c10b1
      try clear c12
      try clear c13
      try clear c26
      try clear c31
      try clear c31b0
      try clear c31b1
      try clear c39
      try clear c46
      try clear c47
      try clear c54
      try clear c55
      try clear c56
      try clear c63
      try clear c64
      try clear c65
      try clear c66
      try clear c71
      try clear c71b0
      try clear c71b1
      try clear hcz11_0 hcz11_1 hcz11_2
      try clear hcz16_0 hcz16_1 hcz16_2
      try clear hcz20_0 hcz20_1 hcz20_2
      try clear hcz22_0 hcz22_1 hcz22_2
      try clear hcz36_0 hcz36_1 hcz36_2
      try clear hcz40_0 hcz40_1 hcz40_2
      try clear hcz43_0 hcz43_1 hcz43_2
      try clear hcz48_0 hcz48_1 hcz48_2
      try clear hcz51_0 hcz51_1 hcz51_2
      try clear hcz57_0 hcz57_1 hcz57_2
      try clear hcz60_0 hcz60_1 hcz60_2
      try clear hcz67_0 hcz67_1 hcz67_2
      try clear hcz69_0 hcz69_1 hcz69_2
      try clear hfz11_0 hfz11_1 hfz11_2
      try clear hfz16_0 hfz16_1 hfz16_2
      try clear hfz20_0 hfz20_1 hfz20_2
      try clear hfz22_0 hfz22_1 hfz22_2
      try clear hfz36_0 hfz36_1 hfz36_2
      try clear hfz40_0 hfz40_1 hfz40_2
      try clear hfz43_0 hfz43_1 hfz43_2
      try clear hfz48_0 hfz48_1 hfz48_2
      try clear hfz51_0 hfz51_1 hfz51_2
      try clear hfz57_0 hfz57_1 hfz57_2
      try clear hfz60_0 hfz60_1 hfz60_2
      try clear hfz67_0 hfz67_1 hfz67_2
      try clear hfz69_0 hfz69_1 hfz69_2
      try clear p2
      obtain ⟨kq, x17_34, x18_34, rfl, rfl, HA, HJ34, HO_603002, HO_610002, HO_629002, HO_636002, BK587, BK602, BK609, BK628, BK635, HB⟩ := hcut
      cases kq with
      | zero => exact absurd HA.out (by simp [samphirelaw12_IndexTwice.j1])
      | succ kj34 =>
       have H := HA.out
       clear HA
       simp only [samphirelaw12_IndexTwice.j1] at H
       by_cases c72 : t608 = 0
       ·rw [if_pos c72] at H
        have c72b0 : (t608 == 0) = true := beq_iff_eq.mpr c72
        have c72b1 : (t608 != 0) = false := bne_eq_false_iff_eq.mpr c72
        clear c72
        replace H := Option.bind_eq_some_iff.mp H
        obtain ⟨⟨t638, t639, t640⟩, A730, H⟩ := H
        replace H : ((samphirelaw12_Ref.f kj34 t603 t604 t605).bind fun bt643 => ((samphireref12_Same.f kj34 t638 t639 t640 bt643.1 bt643.2.1 bt643.2.2).bind fun t648 => (if t648 = true then (if t634 = 0 then ((samphirelaw12_Ref.f kj34 t629 t630 t631).bind fun bt649 => ((samphirelaw12_Ref.f kj34 t596 t597 t598).bind fun bt654 => ((samphireref12_Same.f kj34 bt649.1 bt649.2.1 bt649.2.2 bt654.1 bt654.2.1 bt654.2.2).bind fun t659 => (if t659 = true then (if x18_34 = true then (if x17_34 = a3 then ((samphirelaw12_awake.f kj34).bind fun t660 => (some t660)) else (some false)) else (some false)) else (some false))))) else (some false)) else (some false)))) = some r := H
        have A73 := Aside0.mk A730
        clear A730
        replace H := Option.bind_eq_some_iff.mp H
        obtain ⟨⟨t643, t644, t645⟩, A740, H⟩ := H
        replace H : ((samphireref12_Same.f kj34 t638 t639 t640 t643 t644 t645).bind fun t648 => (if t648 = true then (if t634 = 0 then ((samphirelaw12_Ref.f kj34 t629 t630 t631).bind fun bt649 => ((samphirelaw12_Ref.f kj34 t596 t597 t598).bind fun bt654 => ((samphireref12_Same.f kj34 bt649.1 bt649.2.1 bt649.2.2 bt654.1 bt654.2.1 bt654.2.2).bind fun t659 => (if t659 = true then (if x18_34 = true then (if x17_34 = a3 then ((samphirelaw12_awake.f kj34).bind fun t660 => (some t660)) else (some false)) else (some false)) else (some false))))) else (some false)) else (some false))) = some r := H
        have A74 := Aside0.mk A740
        clear A740
        replace H := Option.bind_eq_some_iff.mp H
        obtain ⟨t648, A750, H⟩ := H
        replace H : (if t648 = true then (if t634 = 0 then ((samphirelaw12_Ref.f kj34 t629 t630 t631).bind fun bt649 => ((samphirelaw12_Ref.f kj34 t596 t597 t598).bind fun bt654 => ((samphireref12_Same.f kj34 bt649.1 bt649.2.1 bt649.2.2 bt654.1 bt654.2.1 bt654.2.2).bind fun t659 => (if t659 = true then (if x18_34 = true then (if x17_34 = a3 then ((samphirelaw12_awake.f kj34).bind fun t660 => (some t660)) else (some false)) else (some false)) else (some false))))) else (some false)) else (some false)) = some r := H
        have A75 := Aside0.mk A750
        clear A750
        by_cases c76 : t648 = true
        ·subst c76
         have H1 : (if t634 = 0 then ((samphirelaw12_Ref.f kj34 t629 t630 t631).bind fun bt649 => ((samphirelaw12_Ref.f kj34 t596 t597 t598).bind fun bt654 => ((samphireref12_Same.f kj34 bt649.1 bt649.2.1 bt649.2.2 bt654.1 bt654.2.1 bt654.2.2).bind fun t659 => (if t659 = true then (if x18_34 = true then (if x17_34 = a3 then ((samphirelaw12_awake.f kj34).bind fun t660 => (some t660)) else (some false)) else (some false)) else (some false))))) else (some false)) = some r := by rw [if_pos rfl] at H; exact H
         clear H
         have H := H1
         clear H1
         by_cases c77 : t634 = 0
         ·rw [if_pos c77] at H
          have c77b0 : (t634 == 0) = true := beq_iff_eq.mpr c77
          have c77b1 : (t634 != 0) = false := bne_eq_false_iff_eq.mpr c77
          clear c77
          replace H := Option.bind_eq_some_iff.mp H
          obtain ⟨⟨t649, t650, t651⟩, A780, H⟩ := H
          replace H : ((samphirelaw12_Ref.f kj34 t596 t597 t598).bind fun bt654 => ((samphireref12_Same.f kj34 t649 t650 t651 bt654.1 bt654.2.1 bt654.2.2).bind fun t659 => (if t659 = true then (if x18_34 = true then (if x17_34 = a3 then ((samphirelaw12_awake.f kj34).bind fun t660 => (some t660)) else (some false)) else (some false)) else (some false)))) = some r := H
          have A78 := Aside0.mk A780
          clear A780
          replace H := Option.bind_eq_some_iff.mp H
          obtain ⟨⟨t654, t655, t656⟩, A790, H⟩ := H
          replace H : ((samphireref12_Same.f kj34 t649 t650 t651 t654 t655 t656).bind fun t659 => (if t659 = true then (if x18_34 = true then (if x17_34 = a3 then ((samphirelaw12_awake.f kj34).bind fun t660 => (some t660)) else (some false)) else (some false)) else (some false))) = some r := H
          have A79 := Aside0.mk A790
          clear A790
          replace H := Option.bind_eq_some_iff.mp H
          obtain ⟨t659, A800, H⟩ := H
          replace H : (if t659 = true then (if x18_34 = true then (if x17_34 = a3 then ((samphirelaw12_awake.f kj34).bind fun t660 => (some t660)) else (some false)) else (some false)) else (some false)) = some r := H
          have A80 := Aside0.mk A800
          clear A800
          by_cases c81 : t659 = true
          ·subst c81
           have H1 : (if x18_34 = true then (if x17_34 = a3 then ((samphirelaw12_awake.f kj34).bind fun t660 => (some t660)) else (some false)) else (some false)) = some r := by rw [if_pos rfl] at H; exact H
           clear H
           have H := H1
           clear H1
           by_cases c82 : x18_34 = true
           ·subst c82
            have H1 : (if x17_34 = a3 then ((samphirelaw12_awake.f kj34).bind fun t660 => (some t660)) else (some false)) = some r := by rw [if_pos rfl] at H; exact H
            clear H
            have H := H1
            clear H1
            by_cases c83 : x17_34 = a3
            ·rw [if_pos c83] at H
             have c83b0 : (x17_34 == a3) = true := beq_iff_eq.mpr c83
             have c83b1 : (x17_34 != a3) = false := bne_eq_false_iff_eq.mpr c83
             clear c83
             replace H := Option.bind_eq_some_iff.mp H
             obtain ⟨t660, A840, H⟩ := H
             replace H : (some t660) = some r := H
             have A84 := Aside0.mk A840
             clear A840
             obtain rfl := Option.some.inj H
             try go_wp2
             have n0_ := Aside0.mk (Kd.V_drew HO_603002.out)
             have n1_ := Aside0.mk (Kd.V_drew HO_610002.out)
             have n2_ := Aside0.mk (Kd.V_drew HO_629002.out)
             have n3_ := Aside0.mk (Kd.V_drew HO_636002.out)
             have n4_ := Aside0.mk (blk_drew BK587.out)
             have n5_ := Aside0.mk (blk_drew BK602.out)
             have n6_ := Aside0.mk (blk_drew BK609.out)
             have n7_ := Aside0.mk (blk_drew BK628.out)
             have n8_ := Aside0.mk (blk_drew BK635.out)
             have n9_ := Aside0.mk (below_drew1 HB.out)
             clear HO_603002
             clear HO_610002
             clear HO_629002
             clear HO_636002
             clear BK587
             clear BK602
             clear BK609
             clear BK628
             clear BK635
             clear HB
             have HO_603002 := n0_
             have HO_610002 := n1_
             have HO_629002 := n2_
             have HO_636002 := n3_
             have BK587 := n4_
             have BK602 := n5_
             have BK609 := n6_
             have BK628 := n7_
             have BK635 := n8_
             have HB := n9_
             clear n0_ n1_ n2_ n3_ n4_ n5_ n6_ n7_ n8_ n9_
             refine start_ (n := 32) (S := fun w' => w'.cell? ⟨gb602, 0, none⟩ = some (.int .u64 t596) ∧ w'.cell? ⟨gb602, 1, none⟩ = some (.int .u64 t597) ∧ w'.cell? ⟨gb602, 2, none⟩ = some (.slice Ao41 t598.length co41) ∧ w'.cell? ⟨gb609, 0, none⟩ = some (.int .u64 t603) ∧ w'.cell? ⟨gb609, 1, none⟩ = some (.int .u64 t604) ∧ w'.cell? ⟨gb609, 2, none⟩ = some (.slice Ao49 t605.length co49) ∧ w'.cell? ⟨gb635, 0, none⟩ = some (.int .u64 t629) ∧ w'.cell? ⟨gb635, 1, none⟩ = some (.int .u64 t630) ∧ w'.cell? ⟨gb635, 2, none⟩ = some (.slice Ao68 t631.length co68)) (ds := []) #[false, false, false, false, false, false, false, false, false, false, false, false, false, false, false, false, false, false, false, false, false, false, false, false, false, false, false, false, false, false, false, false] (by kernel_rfl) rfl rfl ⟨ce BK602 0, ce BK602 1, ce BK602 2, ce BK609 0, ce BK609 1, ce BK609 2, ce BK635 0, ce BK635 1, ce BK635 2⟩ (fun hHeld => ?_); refine with_tabW samphirelaw12_IndexTwice.tab12 samphirelaw12_IndexTwice.bits12 (fun HT_ HW_ => ?_)
             generalize wc.drew = w85 at HO_603002 HO_610002 HO_629002 HO_636002 BK587 BK602 BK609 BK628 BK635 HB hHeld ⊢
             refine pu 0 ?_
             refine pu 1 ?_
             refine pu 2 ?_
             refine ta 3 hHeld ?_
             refine ta 5 hHeld ?_
             refine on1 4 (fun K hK => ?_)
             refine gs Try.func8 #[.agg #[.int .u64 t596, .int .u64 t597, .slice Ao41 t598.length co41]] ?_
             with_reducible refine (samphirelaw12_Ref.calls kj34 t596 t597 _ _ t598 t638 t639 t640 _ ?side1 ?side2 A73.out).mono ?_
             (case side1 => repeat (first | exact (Kd.V_reads' HO_603002.out).2.2 | (with_reducible refine Kd.C_alloc ?_ _) | (with_reducible refine Kd.C_drewN ?_ _) | (with_reducible refine Kd.C_drew ?_)))
             (case side2 => exact (Kd.V_reads' HO_603002.out).2.1)
             rintro e w86 ⟨v641, rfl, ho0, hb⟩
             refine ⟨_, rfl, ?_⟩
             have n0_ := Aside0.mk (Kd.V_elder' (pv HO_603002.out) (Kd.R_base ho0) hb)
             have n1_ := Aside0.mk (Kd.V_elder' (pv HO_610002.out) (Kd.R_base ho0) hb)
             have n2_ := Aside0.mk (Kd.V_elder' (pv HO_629002.out) (Kd.R_base ho0) hb)
             have n3_ := Aside0.mk (Kd.V_elder' (pv HO_636002.out) (Kd.R_base ho0) hb)
             have n4_ := Aside0.mk (Kd.R_lower ho0 (below_size (pb HB)))
             have n5_ := Aside0.mk (blk_below (pk BK587.out) hb)
             have n6_ := Aside0.mk (blk_below (pk BK602.out) hb)
             have n7_ := Aside0.mk (blk_below (pk BK609.out) hb)
             have n8_ := Aside0.mk (blk_below (pk BK628.out) hb)
             have n9_ := Aside0.mk (blk_below (pk BK635.out) hb)
             have n10_ := Aside0.mk (below_step (pb HB) hb)
             clear HO_603002
             clear HO_610002
             clear HO_629002
             clear HO_636002
             clear BK587
             clear BK602
             clear BK609
             clear BK628
             clear BK635
             clear HB
             have HO_603002 := n0_
             have HO_610002 := n1_
             have HO_629002 := n2_
             have HO_636002 := n3_
             have HO642 := n4_
             have BK587 := n5_
             have BK602 := n6_
             have BK609 := n7_
             have BK628 := n8_
             have BK635 := n9_
             have HB := n10_
             clear n0_ n1_ n2_ n3_ n4_ n5_ n6_ n7_ n8_ n9_ n10_
             (try clear hb)
             (try clear hb2)
             (try clear hk)
             (try clear hi)
             (try clear ho0)
             refine hK.out _ _ ⟨ce BK602 0, ce BK602 1, ce BK602 2, ce BK609 0, ce BK609 1, ce BK609 2, ce BK635 0, ce BK635 1, ce BK635 2⟩ (fun hHeld => ?_)
             clear hK K
             refine nm ?_
             refine on1 6 (fun K hK => ?_)
             refine gs Try.func8 #[.agg #[.int .u64 t603, .int .u64 t604, .slice Ao49 t605.length co49]] ?_
             with_reducible refine (samphirelaw12_Ref.calls kj34 t603 t604 _ _ t605 t643 t644 t645 _ ?side1 ?side2 A74.out).mono ?_
             (case side1 => repeat (first | exact (Kd.V_reads' HO_610002.out).2.2 | (with_reducible refine Kd.C_alloc ?_ _) | (with_reducible refine Kd.C_drewN ?_ _) | (with_reducible refine Kd.C_drew ?_)))
             (case side2 => exact (Kd.V_reads' HO_610002.out).2.1)
             rintro e w87 ⟨v646, rfl, ho0, hb⟩
             refine ⟨_, rfl, ?_⟩
             have n0_ := Aside0.mk (Kd.V_elder' (pv HO_603002.out) (Kd.R_base ho0) hb)
             have n1_ := Aside0.mk (Kd.V_elder' (pv HO_610002.out) (Kd.R_base ho0) hb)
             have n2_ := Aside0.mk (Kd.V_elder' (pv HO_629002.out) (Kd.R_base ho0) hb)
             have n3_ := Aside0.mk (Kd.V_elder' (pv HO_636002.out) (Kd.R_base ho0) hb)
             have n4_ := Aside0.mk (Kd.R_elder' (pr HO642.out) (Kd.R_base ho0) hb)
             have n5_ := Aside0.mk (Kd.R_lower (Kd.R_new' ho0 (Kd.R_lt (pr HO642.out))) (below_size (pb HB)))
             have n6_ := Aside0.mk (blk_below (pk BK587.out) hb)
             have n7_ := Aside0.mk (blk_below (pk BK602.out) hb)
             have n8_ := Aside0.mk (blk_below (pk BK609.out) hb)
             have n9_ := Aside0.mk (blk_below (pk BK628.out) hb)
             have n10_ := Aside0.mk (blk_below (pk BK635.out) hb)
             have n11_ := Aside0.mk (below_step (pb HB) hb)
             clear HO_603002
             clear HO_610002
             clear HO_629002
             clear HO_636002
             clear HO642
             clear BK587
             clear BK602
             clear BK609
             clear BK628
             clear BK635
             clear HB
             have HO_603002 := n0_
             have HO_610002 := n1_
             have HO_629002 := n2_
             have HO_636002 := n3_
             have HO642 := n4_
             have HO647 := n5_
             have BK587 := n6_
             have BK602 := n7_
             have BK609 := n8_
             have BK628 := n9_
             have BK635 := n10_
             have HB := n11_
             clear n0_ n1_ n2_ n3_ n4_ n5_ n6_ n7_ n8_ n9_ n10_ n11_
             (try clear hb)
             (try clear hb2)
             (try clear hk)
             (try clear hi)
             (try clear ho0)
             obtain ⟨Ao88, co88, eo88⟩ := Kd.R_slice HO642.out
             (first | subst eo88 | (injection eo88 with f1_ f2_ f3_; have f4_ := f1_.symm; have f5_ := f3_.symm; clear f1_ f2_ f3_; subst f4_; subst f5_))
             obtain ⟨Ao89, co89, eo89⟩ := Kd.R_slice HO647.out
             (first | subst eo89 | (injection eo89 with f1_ f2_ f3_; have f4_ := f1_.symm; have f5_ := f3_.symm; clear f1_ f2_ f3_; subst f4_; subst f5_))
             refine hK.out _ _ ⟨ce BK602 0, ce BK602 1, ce BK602 2, ce BK609 0, ce BK609 1, ce BK609 2, ce BK635 0, ce BK635 1, ce BK635 2⟩ (fun hHeld => ?_)
             clear hK K
             refine nm ?_
             refine on1 7 (fun K hK => ?_)
             refine gs Try.func17 #[.agg #[.int .u64 t638, .int .u64 t639, .slice Ao88 t640.length co88], .agg #[.int .u64 t643, .int .u64 t644, .slice Ao89 t645.length co89]] ?_
             with_reducible refine (samphireref12_Same.calls kj34 t638 t639 _ _ t640 t643 t644 _ _ t645 true _ ?side1 ?side2 ?side3 ?side4 A75.out).mono ?_
             (case side1 => repeat (first | exact (Kd.R_reads' HO642.out).2.2 | (with_reducible refine Kd.C_alloc ?_ _) | (with_reducible refine Kd.C_drewN ?_ _) | (with_reducible refine Kd.C_drew ?_)))
             (case side2 => exact (Kd.R_reads' HO642.out).2.1)
             (case side3 => repeat (first | exact (Kd.R_reads' HO647.out).2.2 | (with_reducible refine Kd.C_alloc ?_ _) | (with_reducible refine Kd.C_drewN ?_ _) | (with_reducible refine Kd.C_drew ?_)))
             (case side4 => exact (Kd.R_reads' HO647.out).2.1)
             rintro e w90 ⟨rfl, hb⟩
             refine ⟨_, rfl, ?_⟩
             have n0_ := Aside0.mk (Kd.V_below (pv HO_603002.out) hb)
             have n1_ := Aside0.mk (Kd.V_below (pv HO_610002.out) hb)
             have n2_ := Aside0.mk (Kd.V_below (pv HO_629002.out) hb)
             have n3_ := Aside0.mk (Kd.V_below (pv HO_636002.out) hb)
             have n4_ := Aside0.mk (Kd.R_below (pr HO642.out) hb)
             have n5_ := Aside0.mk (Kd.R_below (pr HO647.out) hb)
             have n6_ := Aside0.mk (blk_below (pk BK587.out) hb)
             have n7_ := Aside0.mk (blk_below (pk BK602.out) hb)
             have n8_ := Aside0.mk (blk_below (pk BK609.out) hb)
             have n9_ := Aside0.mk (blk_below (pk BK628.out) hb)
             have n10_ := Aside0.mk (blk_below (pk BK635.out) hb)
             have n11_ := Aside0.mk (below_step (pb HB) hb)
             clear HO_603002
             clear HO_610002
             clear HO_629002
             clear HO_636002
             clear HO642
             clear HO647
             clear BK587
             clear BK602
             clear BK609
             clear BK628
             clear BK635
             clear HB
             have HO_603002 := n0_
             have HO_610002 := n1_
             have HO_629002 := n2_
             have HO_636002 := n3_
             have HO642 := n4_
             have HO647 := n5_
             have BK587 := n6_
             have BK602 := n7_
             have BK609 := n8_
             have BK628 := n9_
             have BK635 := n10_
             have HB := n11_
             clear n0_ n1_ n2_ n3_ n4_ n5_ n6_ n7_ n8_ n9_ n10_ n11_
             (try clear hb)
             (try clear hb2)
             (try clear hk)
             (try clear hi)
             refine hK.out _ _ ⟨ce BK602 0, ce BK602 1, ce BK602 2, ce BK609 0, ce BK609 1, ce BK609 2, ce BK635 0, ce BK635 1, ce BK635 2⟩ (fun hHeld => ?_)
             clear hK K
             refine nm ?_
             refine pu 8 ?_
             refine pu 9 ?_
             refine pu 10 ?_
             refine pu 11 ?_
             refine pu 12 ?_
             refine pu 13 ?_
             refine ta 14 hHeld ?_
             refine ta 16 hHeld ?_
             refine on1 15 (fun K hK => ?_)
             refine gs Try.func8 #[.agg #[.int .u64 t629, .int .u64 t630, .slice Ao68 t631.length co68]] ?_
             with_reducible refine (samphirelaw12_Ref.calls kj34 t629 t630 _ _ t631 t649 t650 t651 _ ?side1 ?side2 A78.out).mono ?_
             (case side1 => repeat (first | exact (Kd.V_reads' HO_636002.out).2.2 | (with_reducible refine Kd.C_alloc ?_ _) | (with_reducible refine Kd.C_drewN ?_ _) | (with_reducible refine Kd.C_drew ?_)))
             (case side2 => exact (Kd.V_reads' HO_636002.out).2.1)
             rintro e w91 ⟨v652, rfl, ho0, hb⟩
             refine ⟨_, rfl, ?_⟩
             have n0_ := Aside0.mk (Kd.V_elder' (pv HO_603002.out) (Kd.R_base ho0) hb)
             have n1_ := Aside0.mk (Kd.V_elder' (pv HO_610002.out) (Kd.R_base ho0) hb)
             have n2_ := Aside0.mk (Kd.V_elder' (pv HO_629002.out) (Kd.R_base ho0) hb)
             have n3_ := Aside0.mk (Kd.V_elder' (pv HO_636002.out) (Kd.R_base ho0) hb)
             have n4_ := Aside0.mk (Kd.R_elder' (pr HO642.out) (Kd.R_base ho0) hb)
             have n5_ := Aside0.mk (Kd.R_elder' (pr HO647.out) (Kd.R_base ho0) hb)
             have n6_ := Aside0.mk (Kd.R_lower (Kd.R_new' (Kd.R_new' ho0 (Kd.R_lt (pr HO642.out))) (Kd.R_lt (pr HO647.out))) (below_size (pb HB)))
             have n7_ := Aside0.mk (blk_below (pk BK587.out) hb)
             have n8_ := Aside0.mk (blk_below (pk BK602.out) hb)
             have n9_ := Aside0.mk (blk_below (pk BK609.out) hb)
             have n10_ := Aside0.mk (blk_below (pk BK628.out) hb)
             have n11_ := Aside0.mk (blk_below (pk BK635.out) hb)
             have n12_ := Aside0.mk (below_step (pb HB) hb)
             clear HO_603002
             clear HO_610002
             clear HO_629002
             clear HO_636002
             clear HO642
             clear HO647
             clear BK587
             clear BK602
             clear BK609
             clear BK628
             clear BK635
             clear HB
             have HO_603002 := n0_
             have HO_610002 := n1_
             have HO_629002 := n2_
             have HO_636002 := n3_
             have HO642 := n4_
             have HO647 := n5_
             have HO653 := n6_
             have BK587 := n7_
             have BK602 := n8_
             have BK609 := n9_
             have BK628 := n10_
             have BK635 := n11_
             have HB := n12_
             clear n0_ n1_ n2_ n3_ n4_ n5_ n6_ n7_ n8_ n9_ n10_ n11_ n12_
             (try clear hb)
             (try clear hb2)
             (try clear hk)
             (try clear hi)
             (try clear ho0)
             refine hK.out _ _ ⟨ce BK602 0, ce BK602 1, ce BK602 2, ce BK609 0, ce BK609 1, ce BK609 2, ce BK635 0, ce BK635 1, ce BK635 2⟩ (fun hHeld => ?_)
             clear hK K
             refine nm ?_
             refine on1 17 (fun K hK => ?_)
             refine gs Try.func8 #[.agg #[.int .u64 t596, .int .u64 t597, .slice Ao41 t598.length co41]] ?_
             with_reducible refine (samphirelaw12_Ref.calls kj34 t596 t597 _ _ t598 t654 t655 t656 _ ?side1 ?side2 A79.out).mono ?_
             (case side1 => repeat (first | exact (Kd.V_reads' HO_603002.out).2.2 | (with_reducible refine Kd.C_alloc ?_ _) | (with_reducible refine Kd.C_drewN ?_ _) | (with_reducible refine Kd.C_drew ?_)))
             (case side2 => exact (Kd.V_reads' HO_603002.out).2.1)
             rintro e w92 ⟨v657, rfl, ho0, hb⟩
             refine ⟨_, rfl, ?_⟩
             have n0_ := Aside0.mk (Kd.V_elder' (pv HO_603002.out) (Kd.R_base ho0) hb)
             have n1_ := Aside0.mk (Kd.V_elder' (pv HO_610002.out) (Kd.R_base ho0) hb)
             have n2_ := Aside0.mk (Kd.V_elder' (pv HO_629002.out) (Kd.R_base ho0) hb)
             have n3_ := Aside0.mk (Kd.V_elder' (pv HO_636002.out) (Kd.R_base ho0) hb)
             have n4_ := Aside0.mk (Kd.R_elder' (pr HO642.out) (Kd.R_base ho0) hb)
             have n5_ := Aside0.mk (Kd.R_elder' (pr HO647.out) (Kd.R_base ho0) hb)
             have n6_ := Aside0.mk (Kd.R_elder' (pr HO653.out) (Kd.R_base ho0) hb)
             have n7_ := Aside0.mk (Kd.R_lower (Kd.R_new' (Kd.R_new' (Kd.R_new' ho0 (Kd.R_lt (pr HO642.out))) (Kd.R_lt (pr HO647.out))) (Kd.R_lt (pr HO653.out))) (below_size (pb HB)))
             have n8_ := Aside0.mk (blk_below (pk BK587.out) hb)
             have n9_ := Aside0.mk (blk_below (pk BK602.out) hb)
             have n10_ := Aside0.mk (blk_below (pk BK609.out) hb)
             have n11_ := Aside0.mk (blk_below (pk BK628.out) hb)
             have n12_ := Aside0.mk (blk_below (pk BK635.out) hb)
             have n13_ := Aside0.mk (below_step (pb HB) hb)
             clear HO_603002
             clear HO_610002
             clear HO_629002
             clear HO_636002
             clear HO642
             clear HO647
             clear HO653
             clear BK587
             clear BK602
             clear BK609
             clear BK628
             clear BK635
             clear HB
             have HO_603002 := n0_
             have HO_610002 := n1_
             have HO_629002 := n2_
             have HO_636002 := n3_
             have HO642 := n4_
             have HO647 := n5_
             have HO653 := n6_
             have HO658 := n7_
             have BK587 := n8_
             have BK602 := n9_
             have BK609 := n10_
             have BK628 := n11_
             have BK635 := n12_
             have HB := n13_
             clear n0_ n1_ n2_ n3_ n4_ n5_ n6_ n7_ n8_ n9_ n10_ n11_ n12_ n13_
             (try clear hb)
             (try clear hb2)
             (try clear hk)
             (try clear hi)
             (try clear ho0)
             obtain ⟨Ao93, co93, eo93⟩ := Kd.R_slice HO653.out
             (first | subst eo93 | (injection eo93 with f1_ f2_ f3_; have f4_ := f1_.symm; have f5_ := f3_.symm; clear f1_ f2_ f3_; subst f4_; subst f5_))
             obtain ⟨Ao94, co94, eo94⟩ := Kd.R_slice HO658.out
             (first | subst eo94 | (injection eo94 with f1_ f2_ f3_; have f4_ := f1_.symm; have f5_ := f3_.symm; clear f1_ f2_ f3_; subst f4_; subst f5_))
             refine hK.out _ _ ⟨ce BK602 0, ce BK602 1, ce BK602 2, ce BK609 0, ce BK609 1, ce BK609 2, ce BK635 0, ce BK635 1, ce BK635 2⟩ (fun hHeld => ?_)
             clear hK K
             refine nm ?_
             refine on1 18 (fun K hK => ?_)
             refine gs Try.func17 #[.agg #[.int .u64 t649, .int .u64 t650, .slice Ao93 t651.length co93], .agg #[.int .u64 t654, .int .u64 t655, .slice Ao94 t656.length co94]] ?_
             with_reducible refine (samphireref12_Same.calls kj34 t649 t650 _ _ t651 t654 t655 _ _ t656 true _ ?side1 ?side2 ?side3 ?side4 A80.out).mono ?_
             (case side1 => repeat (first | exact (Kd.R_reads' HO653.out).2.2 | (with_reducible refine Kd.C_alloc ?_ _) | (with_reducible refine Kd.C_drewN ?_ _) | (with_reducible refine Kd.C_drew ?_)))
             (case side2 => exact (Kd.R_reads' HO653.out).2.1)
             (case side3 => repeat (first | exact (Kd.R_reads' HO658.out).2.2 | (with_reducible refine Kd.C_alloc ?_ _) | (with_reducible refine Kd.C_drewN ?_ _) | (with_reducible refine Kd.C_drew ?_)))
             (case side4 => exact (Kd.R_reads' HO658.out).2.1)
             rintro e w95 ⟨rfl, hb⟩
             refine ⟨_, rfl, ?_⟩
             have n0_ := Aside0.mk (Kd.V_below (pv HO_603002.out) hb)
             have n1_ := Aside0.mk (Kd.V_below (pv HO_610002.out) hb)
             have n2_ := Aside0.mk (Kd.V_below (pv HO_629002.out) hb)
             have n3_ := Aside0.mk (Kd.V_below (pv HO_636002.out) hb)
             have n4_ := Aside0.mk (Kd.R_below (pr HO642.out) hb)
             have n5_ := Aside0.mk (Kd.R_below (pr HO647.out) hb)
             have n6_ := Aside0.mk (Kd.R_below (pr HO653.out) hb)
             have n7_ := Aside0.mk (Kd.R_below (pr HO658.out) hb)
             have n8_ := Aside0.mk (blk_below (pk BK587.out) hb)
             have n9_ := Aside0.mk (blk_below (pk BK602.out) hb)
             have n10_ := Aside0.mk (blk_below (pk BK609.out) hb)
             have n11_ := Aside0.mk (blk_below (pk BK628.out) hb)
             have n12_ := Aside0.mk (blk_below (pk BK635.out) hb)
             have n13_ := Aside0.mk (below_step (pb HB) hb)
             clear HO_603002
             clear HO_610002
             clear HO_629002
             clear HO_636002
             clear HO642
             clear HO647
             clear HO653
             clear HO658
             clear BK587
             clear BK602
             clear BK609
             clear BK628
             clear BK635
             clear HB
             have HO_603002 := n0_
             have HO_610002 := n1_
             have HO_629002 := n2_
             have HO_636002 := n3_
             have HO642 := n4_
             have HO647 := n5_
             have HO653 := n6_
             have HO658 := n7_
             have BK587 := n8_
             have BK602 := n9_
             have BK609 := n10_
             have BK628 := n11_
             have BK635 := n12_
             have HB := n13_
             clear n0_ n1_ n2_ n3_ n4_ n5_ n6_ n7_ n8_ n9_ n10_ n11_ n12_ n13_
             (try clear hb)
             (try clear hb2)
             (try clear hk)
             (try clear hi)
             refine hK.out _ _ ⟨ce BK602 0, ce BK602 1, ce BK602 2, ce BK609 0, ce BK609 1, ce BK609 2, ce BK635 0, ce BK635 1, ce BK635 2⟩ (fun hHeld => ?_)
             clear hK K
             refine nm ?_
             refine pu 19 ?_
             refine pu 20 ?_
             refine pu 21 ?_
             refine pu 22 ?_
             refine pu 23 ?_
             refine pu 24 ?_
             refine pu 25 ?_
             refine pu 26 ?_
             refine pu 27 ?_
             refine pu 28 ?_
             refine on1 29 (fun K hK => ?_)
             refine gs Try.func10 #[] ?_
             with_reducible refine (samphirelaw12_awake.calls kj34  t660 hrT _ A84.out).mono ?_
             rintro e w96 ⟨rfl, hb⟩
             refine ⟨_, rfl, ?_⟩
             have n0_ := Aside0.mk (Kd.V_below (pv HO_603002.out) hb)
             have n1_ := Aside0.mk (Kd.V_below (pv HO_610002.out) hb)
             have n2_ := Aside0.mk (Kd.V_below (pv HO_629002.out) hb)
             have n3_ := Aside0.mk (Kd.V_below (pv HO_636002.out) hb)
             have n4_ := Aside0.mk (Kd.R_below (pr HO642.out) hb)
             have n5_ := Aside0.mk (Kd.R_below (pr HO647.out) hb)
             have n6_ := Aside0.mk (Kd.R_below (pr HO653.out) hb)
             have n7_ := Aside0.mk (Kd.R_below (pr HO658.out) hb)
             have n8_ := Aside0.mk (blk_below (pk BK587.out) hb)
             have n9_ := Aside0.mk (blk_below (pk BK602.out) hb)
             have n10_ := Aside0.mk (blk_below (pk BK609.out) hb)
             have n11_ := Aside0.mk (blk_below (pk BK628.out) hb)
             have n12_ := Aside0.mk (blk_below (pk BK635.out) hb)
             have n13_ := Aside0.mk (below_step (pb HB) hb)
             clear HO_603002
             clear HO_610002
             clear HO_629002
             clear HO_636002
             clear HO642
             clear HO647
             clear HO653
             clear HO658
             clear BK587
             clear BK602
             clear BK609
             clear BK628
             clear BK635
             clear HB
             have HO_603002 := n0_
             have HO_610002 := n1_
             have HO_629002 := n2_
             have HO_636002 := n3_
             have HO642 := n4_
             have HO647 := n5_
             have HO653 := n6_
             have HO658 := n7_
             have BK587 := n8_
             have BK602 := n9_
             have BK609 := n10_
             have BK628 := n11_
             have BK635 := n12_
             have HB := n13_
             clear n0_ n1_ n2_ n3_ n4_ n5_ n6_ n7_ n8_ n9_ n10_ n11_ n12_ n13_
             (try clear hb)
             (try clear hb2)
             (try clear hk)
             (try clear hi)
             refine hK.out _ _ ⟨ce BK602 0, ce BK602 1, ce BK602 2, ce BK609 0, ce BK609 1, ce BK609 2, ce BK635 0, ce BK635 1, ce BK635 2⟩ (fun hHeld => ?_)
             clear hK K
             refine nm ?_
             refine pu 30 ?_
             refine pu 31 ?_
             refine done_ (done_of HT_.out (by kernel_rfl)) ?_
             try go_wp2
             go_ret
             exact ⟨by first | rfl | (simp [errW_none, errW_some] <;> rfl) | (simp [*, errW_none, errW_some] <;> rfl), pb HB⟩
            ·rw [if_neg c83] at H
             exact Bool.noConfusion ((Option.some.inj H).trans hrT.out)
           ·replace c82 := Bool.eq_false_iff.mpr c82
            subst c82
            have H1 : (some false) = some r := by rw [if_neg (show ¬ (false = true) by decide)] at H; exact H
            exact Bool.noConfusion ((Option.some.inj H1).trans hrT.out)
          ·replace c81 := Bool.eq_false_iff.mpr c81
           subst c81
           have H1 : (some false) = some r := by rw [if_neg (show ¬ (false = true) by decide)] at H; exact H
           exact Bool.noConfusion ((Option.some.inj H1).trans hrT.out)
         ·rw [if_neg c77] at H
          exact Bool.noConfusion ((Option.some.inj H).trans hrT.out)
        ·replace c76 := Bool.eq_false_iff.mpr c76
         subst c76
         have H1 : (some false) = some r := by rw [if_neg (show ¬ (false = true) by decide)] at H; exact H
         exact Bool.noConfusion ((Option.some.inj H1).trans hrT.out)
       ·rw [if_neg c72] at H
        have c72b0 : (t608 == 0) = false := beq_eq_false_iff_ne.mpr c72
        have c72b1 : (t608 != 0) = true := bne_iff_ne.mpr c72
        obtain rfl := Option.some.inj H
        try go_wp2
        have n0_ := Aside0.mk (Kd.V_drew HO_603002.out)
        have n1_ := Aside0.mk (Kd.V_drew HO_610002.out)
        have n2_ := Aside0.mk (Kd.V_drew HO_629002.out)
        have n3_ := Aside0.mk (Kd.V_drew HO_636002.out)
        have n4_ := Aside0.mk (blk_drew BK587.out)
        have n5_ := Aside0.mk (blk_drew BK602.out)
        have n6_ := Aside0.mk (blk_drew BK609.out)
        have n7_ := Aside0.mk (blk_drew BK628.out)
        have n8_ := Aside0.mk (blk_drew BK635.out)
        have n9_ := Aside0.mk (below_drew1 HB.out)
        clear HO_603002
        clear HO_610002
        clear HO_629002
        clear HO_636002
        clear BK587
        clear BK602
        clear BK609
        clear BK628
        clear BK635
        clear HB
        have HO_603002 := n0_
        have HO_610002 := n1_
        have HO_629002 := n2_
        have HO_636002 := n3_
        have BK587 := n4_
        have BK602 := n5_
        have BK609 := n6_
        have BK628 := n7_
        have BK635 := n8_
        have HB := n9_
        clear n0_ n1_ n2_ n3_ n4_ n5_ n6_ n7_ n8_ n9_
        refine start_ (n := 32) (S := fun w' => True) (ds := []) #[false, false, false, false, false, false, false, false, false, false, false, false, false, false, false, false, false, false, false, false, false, false, false, false, false, false, false, false, false, false, false, false] (by kernel_rfl) rfl rfl trivial (fun hHeld => ?_); refine with_tabW samphirelaw12_IndexTwice.tab12 samphirelaw12_IndexTwice.bits12 (fun HT_ HW_ => ?_)
        generalize wc.drew = w142 at HO_603002 HO_610002 HO_629002 HO_636002 BK587 BK602 BK609 BK628 BK635 HB hHeld ⊢
        refine pu 0 ?_
        refine pu 1 ?_
        refine pu 2 ?_
        refine po 3 ?_
        refine po 4 ?_
        refine po 5 ?_
        refine po 6 ?_
        refine po 7 ?_
        refine pu 8 ?_
        refine pu 9 ?_
        refine po 10 ?_
        refine po 11 ?_
        refine pu 12 ?_
        refine pu 13 ?_
        refine po 14 ?_
        refine po 15 ?_
        refine po 16 ?_
        refine po 17 ?_
        refine po 18 ?_
        refine pu 19 ?_
        refine pu 20 ?_
        refine po 21 ?_
        refine pu 22 ?_
        refine pu 23 ?_
        refine po 24 ?_
        refine po 25 ?_
        refine po 26 ?_
        refine pu 27 ?_
        refine pu 28 ?_
        refine po 29 ?_
        refine pu 30 ?_
        refine pu 31 ?_
        refine done_ (done_of HT_.out (by kernel_rfl)) ?_
        try go_wp2
        go_ret
        exact ⟨by first | rfl | (simp [errW_none, errW_some] <;> rfl) | (simp [*, errW_none, errW_some] <;> rfl), pb HB⟩
    ·rw [if_neg c31] at H
     have c31b0 : (t601 == 0) = false := beq_eq_false_iff_ne.mpr c31
     have c31b1 : (t601 != 0) = true := bne_iff_ne.mpr c31
     replace H := Option.bind_eq_some_iff.mp H
     obtain ⟨⟨t610, t611, t612⟩, A1430, H⟩ := H
     replace H : ((samphirelaw12_Ref.f kj4 a0_0 a0_1 l0_2).bind fun bt615 => ((samphireref12_Same.f kj4 t610 t611 t612 bt615.1 bt615.2.1 bt615.2.2).bind fun t620 => (if t620 = true then ((samphirelaw12_awake.f kj4).bind fun t621 => (some t621)) else (some false)))) = some r := H
     have A143 := Aside0.mk A1430
     clear A1430
     replace H := Option.bind_eq_some_iff.mp H
     obtain ⟨⟨t615, t616, t617⟩, A1440, H⟩ := H
     replace H : ((samphireref12_Same.f kj4 t610 t611 t612 t615 t616 t617).bind fun t620 => (if t620 = true then ((samphirelaw12_awake.f kj4).bind fun t621 => (some t621)) else (some false))) = some r := H
     have A144 := Aside0.mk A1440
     clear A1440
     replace H := Option.bind_eq_some_iff.mp H
     obtain ⟨t620, A1450, H⟩ := H
     replace H : (if t620 = true then ((samphirelaw12_awake.f kj4).bind fun t621 => (some t621)) else (some false)) = some r := H
     have A145 := Aside0.mk A1450
     clear A1450
     by_cases c146 : t620 = true
     ·subst c146
      have H1 : ((samphirelaw12_awake.f kj4).bind fun t621 => (some t621)) = some r := by rw [if_pos rfl] at H; exact H
      clear H
      have H := H1
      clear H1
      replace H := Option.bind_eq_some_iff.mp H
      obtain ⟨t621, A1470, H⟩ := H
      replace H : (some t621) = some r := H
      have A147 := Aside0.mk A1470
      clear A1470
      obtain rfl := Option.some.inj H
      have hcz148_0 := ce BK587 0
      have hcz148_1 := ce BK587 1
      have hcz148_2 := ce BK587 2
      have hfz148_0 := fz BK587 0
      have hfz148_1 := fz BK587 1
      have hfz148_2 := fz BK587 2
      try go_wp2_with (first | ((with_reducible refine gate_callee (f := 13) rfl ?_); refine gl (some 38) Try.func13 #[.agg #[.int .u64 a0_0, .int .u64 a0_1, .slice A0_2 l0_2.length c0_2], .string a1, .int .i64 a2] ?_; (with_reducible refine (index_Put.calls kj4 a0_0 a0_1 (fun k_ => k_ < w.heap.size) _ _ l0_2 a1 a2 t596 t597 t598 t601 _ ?side1 A29.out).mono ?_); (case side1 => exact Kd.V_mk HC0_2.out (Kd.F_below (Kd.C_F k60_heap HR0_2.out) (pb HB))); rintro e w149 ⟨v599, rfl, ho0, hb⟩; refine ⟨_, rfl, ?_⟩; have n0_ := Aside0.mk (Kd.V_lower (Kd.V_mono (ok' := fun k_ => k_ ≠ gb587) ho0 (fun k_ hk_ => Or.elim hk_ (fun hs_ => fun e_ => Nat.not_le.2 hs_ (by rw [e_]; exact GW587.out)) (fun hn_ => (Kd.freshB (g := gb587) (o := .cells #[.int .u64 a0_0, .int .u64 a0_1, .slice A0_2 l0_2.length c0_2] 27 (0, 0)) (pk BK587.out) k_ hn_)))) (below_size (pb HB))); have n1_ := Aside0.mk (blk_below (pk BK587.out) hb); have n2_ := Aside0.mk (below_step (pb HB) hb); clear BK587; clear HB; have HO600 := n0_; have BK587 := n1_; have HB := n2_; clear n0_ n1_ n2_; (try clear hb); (try clear hb2); (try clear hk); (try clear hi); (try clear ho0)) | ((with_reducible refine gate_dst (N := 9) rfl ?_); (try (refine gate_guard (by rfl) ?_; dsimp only)); refine box_event ?hg (N := 9) ?hd (cs := #[.int .u64 0, .int .u64 0, .slice none 0 0]) (t := 27) ?hr ?_; (case hd => rfl); (case hg => rfl); (case hr => first | (go_simp; done) | (go_simp; rfl)); intro gb602 hg w150 hbox hb; have n0_ := Aside0.mk (Kd.V_below (Kd.V_elderB (pv HO600.out) gb602 (Nat.le_of_eq hg.symm)) hb); have n1_ := Aside0.mk (blk_below (pk BK587.out) hb); have n2_ := Aside0.mk (below_step (pb HB) hb); have n3_ := Aside0.mk (hbox); have n4_ := Aside0.mk ((pg hg HB : w.heap.size ≤ gb602)); have n5_ := Aside0.mk ((pg hg HB : w.heap.size ≤ gb602)); have n6_ := Aside0.mk ((pl hg (pk BK587.out) : gb587 ≠ gb602)); have n7_ := Aside0.mk ((pl' hg (pk BK587.out) : gb602 ≠ gb587)); clear HO600; clear BK587; clear HB; have HO600 := n0_; have BK587 := n1_; have HB := n2_; have BK602 := n3_; have GW602 := n4_; have GE602 := n5_; have NB587_602 := n6_; have NB602_587 := n7_; clear n0_ n1_ n2_ n3_ n4_ n5_ n6_ n7_; clear hb hbox hg; have hnb151 := NB602_587.out; have hnc151 := NB587_602.out; have hcz152_0 := ce BK602 0; have hcz152_1 := ce BK602 1; have hcz152_2 := ce BK602 2; have hfz152_0 := fz BK602 0; have hfz152_1 := fz BK602 1; have hfz152_2 := fz BK602 2; obtain ⟨Ao153, co153, eo153⟩ := Kd.V_slice HO600.out; subst eo153) | ((with_reducible refine gate_store (t := 27) (p := 9) rfl ?_); refine store_event (t := 27) (p := 9) (v := ?vo_w154) (w1 := (((w150.setCell ⟨gb602, 0, none⟩ (.int .u64 t596)).setCell ⟨gb602, 1, none⟩ (.int .u64 t597)).setCell ⟨gb602, 2, none⟩ (.slice Ao153 t598.length co153))) ?hg ?ho ?hn ?hr ?_; (case ho => rfl); (case hg => rfl); (case hn => rfl); (case hr => first | (go_simp; done) | (go_simp; rfl)); intro w154 hw; have n0_ : Aside0 (Kd.V k60 60 w154 w.heap.size (fun k_ => k_ ≠ gb587 ∧ k_ ≠ gb602) (.slice Ao153 t598.length co153) t598) := ⟨(by rw [hw]; exact (pv (Kd.V_mono (Kd.V_far (p := ⟨gb602, 2, none⟩) (Kd.V_far (p := ⟨gb602, 1, none⟩) (Kd.V_far (p := ⟨gb602, 0, none⟩) (Kd.V_mono HO600.out (fun k_ hk => (⟨hk, hk.2⟩ : _ ∧ k_ ≠ gb602))) (fun _ hk => hk.2) (.int .u64 t596)) (fun _ hk => hk.2) (.int .u64 t597)) (fun _ hk => hk.2) (.slice Ao153 t598.length co153)) (fun _ hk => ⟨hk.1.1, hk.1.2⟩))))⟩; have n1_ : Aside0 (w154.heap[gb587]? = some (.cells #[.int .u64 a0_0, .int .u64 a0_1, .slice A0_2 l0_2.length c0_2] 27 (0, 0))) := ⟨(by rw [hw]; exact (by refine pk ?_; refine blk_far ?_ NB587_602.out _; refine pk ?_; refine blk_far ?_ NB587_602.out _; refine pk ?_; refine blk_far ?_ NB587_602.out _; refine pk ?_; exact BK587.out))⟩; have n2_ : Aside0 (w154.heap[gb602]? = some (.cells #[.int .u64 t596, .int .u64 t597, .slice Ao153 t598.length co153] 27 (0, 0))) := ⟨(by rw [hw]; exact (by refine pk ?_; refine blk_put (cs := #[.int .u64 t596, .int .u64 t597, .slice none 0 0]) ?_ 2 _ rfl; refine pk ?_; refine blk_put (cs := #[.int .u64 t596, .int .u64 0, .slice none 0 0]) ?_ 1 _ rfl; refine pk ?_; refine blk_put (cs := #[.int .u64 0, .int .u64 0, .slice none 0 0]) ?_ 0 _ rfl; refine pk ?_; exact BK602.out))⟩; have n3_ : Aside0 (Below w.heap.size w w154) := ⟨(by rw [hw]; exact (pb HB))⟩; clear hw; clear HO600; clear BK587; clear BK602; clear HB; have HO600 := n0_; have BK587 := n1_; have BK602 := n2_; have HB := n3_; clear n0_ n1_ n2_ n3_; have hcz155_0 := ce BK602 0; have hcz155_1 := ce BK602 1; have hcz155_2 := ce BK602 2; have hfz155_0 := fz BK602 0; have hfz155_1 := fz BK602 1; have hfz155_2 := fz BK602 2) | ((with_reducible refine gate_callee (f := 13) rfl ?_); refine gl (some 45) Try.func13 #[.agg #[.int .u64 t596, .int .u64 t597, .slice Ao153 t598.length co153], .string a1, .int .i64 a2] ?_; (with_reducible refine (index_Put.calls kj4 t596 t597 (fun k_ => (k_ ≠ gb587 ∧ k_ ≠ gb602)) _ _ t598 a1 a2 t603 t604 t605 t608 _ ?side1 A30.out).mono ?_); (case side1 => exact HO600.out); rintro e w156 ⟨v606, rfl, ho0, hb⟩; refine ⟨_, rfl, ?_⟩; have n0_ := Aside0.mk (Kd.V_below (pv HO600.out) hb); have n1_ := Aside0.mk (Kd.V_lower (Kd.V_mono (ok' := fun k_ => k_ ≠ gb587 ∧ k_ ≠ gb602) ho0 (fun k_ hk_ => ⟨Or.elim hk_ (fun hs_ => hs_.1) (fun hn_ => (Kd.freshB (g := gb587) (o := .cells #[.int .u64 a0_0, .int .u64 a0_1, .slice A0_2 l0_2.length c0_2] 27 (0, 0)) (pk BK587.out) k_ hn_)), Or.elim hk_ (fun hs_ => hs_.2) (fun hn_ => (Kd.freshB (g := gb602) (o := .cells #[.int .u64 t596, .int .u64 t597, .slice Ao153 t598.length co153] 27 (0, 0)) (pk BK602.out) k_ hn_))⟩)) (below_size (pb HB))); have n2_ := Aside0.mk (blk_below (pk BK587.out) hb); have n3_ := Aside0.mk (blk_below (pk BK602.out) hb); have n4_ := Aside0.mk (below_step (pb HB) hb); clear HO600; clear BK587; clear BK602; clear HB; have HO600 := n0_; have HO607 := n1_; have BK587 := n2_; have BK602 := n3_; have HB := n4_; clear n0_ n1_ n2_ n3_ n4_; (try clear hb); (try clear hb2); (try clear hk); (try clear hi); (try clear ho0)) | ((with_reducible refine gate_dst (N := 11) rfl ?_); (try (refine gate_guard (by rfl) ?_; dsimp only)); refine box_event ?hg (N := 11) ?hd (cs := #[.int .u64 0, .int .u64 0, .slice none 0 0]) (t := 27) ?hr ?_; (case hd => rfl); (case hg => rfl); (case hr => first | (go_simp; done) | (go_simp; rfl)); intro gb609 hg w157 hbox hb; have n0_ := Aside0.mk (Kd.V_below (Kd.V_elderB (pv HO600.out) gb609 (Nat.le_of_eq hg.symm)) hb); have n1_ := Aside0.mk (Kd.V_below (Kd.V_elderB (pv HO607.out) gb609 (Nat.le_of_eq hg.symm)) hb); have n2_ := Aside0.mk (blk_below (pk BK587.out) hb); have n3_ := Aside0.mk (blk_below (pk BK602.out) hb); have n4_ := Aside0.mk (below_step (pb HB) hb); have n5_ := Aside0.mk (hbox); have n6_ := Aside0.mk ((pg hg HB : w.heap.size ≤ gb609)); have n7_ := Aside0.mk ((pg hg HB : w.heap.size ≤ gb609)); have n8_ := Aside0.mk ((pl hg (pk BK587.out) : gb587 ≠ gb609)); have n9_ := Aside0.mk ((pl' hg (pk BK587.out) : gb609 ≠ gb587)); have n10_ := Aside0.mk ((pl hg (pk BK602.out) : gb602 ≠ gb609)); have n11_ := Aside0.mk ((pl' hg (pk BK602.out) : gb609 ≠ gb602)); clear HO600; clear HO607; clear BK587; clear BK602; clear HB; have HO600 := n0_; have HO607 := n1_; have BK587 := n2_; have BK602 := n3_; have HB := n4_; have BK609 := n5_; have GW609 := n6_; have GE609 := n7_; have NB587_609 := n8_; have NB609_587 := n9_; have NB602_609 := n10_; have NB609_602 := n11_; clear n0_ n1_ n2_ n3_ n4_ n5_ n6_ n7_ n8_ n9_ n10_ n11_; clear hb hbox hg; have hnb158 := NB609_587.out; have hnc158 := NB587_609.out; have hnb159 := NB609_602.out; have hnc159 := NB602_609.out; have hcz160_0 := ce BK609 0; have hcz160_1 := ce BK609 1; have hcz160_2 := ce BK609 2; have hfz160_0 := fz BK609 0; have hfz160_1 := fz BK609 1; have hfz160_2 := fz BK609 2; obtain ⟨Ao161, co161, eo161⟩ := Kd.V_slice HO607.out; subst eo161))
      have n0_ : Aside0 (Kd.V k60 60 (((w157.setCell ⟨gb609, 0, none⟩ (.int .u64 t603)).setCell ⟨gb609, 1, none⟩ (.int .u64 t604)).setCell ⟨gb609, 2, none⟩ (.slice Ao161 t605.length co161)) w.heap.size (fun k_ => k_ ≠ gb587 ∧ k_ ≠ gb602 ∧ k_ ≠ gb609) (.slice Ao153 t598.length co153) t598) := ⟨by refine pv ?_; exact Kd.V_mono (Kd.V_far (p := ⟨gb609, 2, none⟩) (Kd.V_far (p := ⟨gb609, 1, none⟩) (Kd.V_far (p := ⟨gb609, 0, none⟩) (Kd.V_mono HO600.out (fun k_ hk => (⟨hk, hk.2⟩ : _ ∧ k_ ≠ gb609))) (fun _ hk => hk.2) (.int .u64 t603)) (fun _ hk => hk.2) (.int .u64 t604)) (fun _ hk => hk.2) (.slice Ao161 t605.length co161)) (fun _ hk => ⟨hk.1.1.1, ⟨hk.1.1.2, hk.1.2⟩⟩)⟩
      have n1_ : Aside0 (Kd.V k60 60 (((w157.setCell ⟨gb609, 0, none⟩ (.int .u64 t603)).setCell ⟨gb609, 1, none⟩ (.int .u64 t604)).setCell ⟨gb609, 2, none⟩ (.slice Ao161 t605.length co161)) w.heap.size (fun k_ => k_ ≠ gb587 ∧ k_ ≠ gb602 ∧ k_ ≠ gb609) (.slice Ao161 t605.length co161) t605) := ⟨by refine pv ?_; exact Kd.V_mono (Kd.V_far (p := ⟨gb609, 2, none⟩) (Kd.V_far (p := ⟨gb609, 1, none⟩) (Kd.V_far (p := ⟨gb609, 0, none⟩) (Kd.V_mono HO607.out (fun k_ hk => (⟨hk, hk.2⟩ : _ ∧ k_ ≠ gb609))) (fun _ hk => hk.2) (.int .u64 t603)) (fun _ hk => hk.2) (.int .u64 t604)) (fun _ hk => hk.2) (.slice Ao161 t605.length co161)) (fun _ hk => ⟨hk.1.1.1, ⟨hk.1.1.2, hk.1.2⟩⟩)⟩
      have n2_ : Aside0 ((((w157.setCell ⟨gb609, 0, none⟩ (.int .u64 t603)).setCell ⟨gb609, 1, none⟩ (.int .u64 t604)).setCell ⟨gb609, 2, none⟩ (.slice Ao161 t605.length co161)).heap[gb587]? = some (.cells #[.int .u64 a0_0, .int .u64 a0_1, .slice A0_2 l0_2.length c0_2] 27 (0, 0))) := ⟨by refine pk ?_; refine blk_far ?_ NB587_609.out _; refine pk ?_; refine blk_far ?_ NB587_609.out _; refine pk ?_; refine blk_far ?_ NB587_609.out _; refine pk ?_; exact BK587.out⟩
      have n3_ : Aside0 ((((w157.setCell ⟨gb609, 0, none⟩ (.int .u64 t603)).setCell ⟨gb609, 1, none⟩ (.int .u64 t604)).setCell ⟨gb609, 2, none⟩ (.slice Ao161 t605.length co161)).heap[gb602]? = some (.cells #[.int .u64 t596, .int .u64 t597, .slice Ao153 t598.length co153] 27 (0, 0))) := ⟨by refine pk ?_; refine blk_far ?_ NB602_609.out _; refine pk ?_; refine blk_far ?_ NB602_609.out _; refine pk ?_; refine blk_far ?_ NB602_609.out _; refine pk ?_; exact BK602.out⟩
      have n4_ : Aside0 ((((w157.setCell ⟨gb609, 0, none⟩ (.int .u64 t603)).setCell ⟨gb609, 1, none⟩ (.int .u64 t604)).setCell ⟨gb609, 2, none⟩ (.slice Ao161 t605.length co161)).heap[gb609]? = some (.cells #[.int .u64 t603, .int .u64 t604, .slice Ao161 t605.length co161] 27 (0, 0))) := ⟨by refine pk ?_; refine blk_put (cs := #[.int .u64 t603, .int .u64 t604, .slice none 0 0]) ?_ 2 _ rfl; refine pk ?_; refine blk_put (cs := #[.int .u64 t603, .int .u64 0, .slice none 0 0]) ?_ 1 _ rfl; refine pk ?_; refine blk_put (cs := #[.int .u64 0, .int .u64 0, .slice none 0 0]) ?_ 0 _ rfl; refine pk ?_; exact BK609.out⟩
      have n5_ : Aside0 (Below w.heap.size w (((w157.setCell ⟨gb609, 0, none⟩ (.int .u64 t603)).setCell ⟨gb609, 1, none⟩ (.int .u64 t604)).setCell ⟨gb609, 2, none⟩ (.slice Ao161 t605.length co161))) := ⟨pb HB⟩
      (try clear HO600)
      (try clear HO607)
      (try clear BK587)
      (try clear BK602)
      (try clear BK609)
      (try clear HB)
      generalize (((w157.setCell ⟨gb609, 0, none⟩ (.int .u64 t603)).setCell ⟨gb609, 1, none⟩ (.int .u64 t604)).setCell ⟨gb609, 2, none⟩ (.slice Ao161 t605.length co161)) = w162 at n0_ n1_ n2_ n3_ n4_ n5_ ⊢
      have HO600 := n0_
      have HO607 := n1_
      have BK587 := n2_
      have BK602 := n3_
      have BK609 := n4_
      have HB := n5_
      clear n0_ n1_ n2_ n3_ n4_ n5_
      have n0_ := Aside0.mk (Kd.V_drew HO600.out)
      have n1_ := Aside0.mk (Kd.V_drew HO607.out)
      have n2_ := Aside0.mk (blk_drew BK587.out)
      have n3_ := Aside0.mk (blk_drew BK602.out)
      have n4_ := Aside0.mk (blk_drew BK609.out)
      have n5_ := Aside0.mk (below_drew1 HB.out)
      clear HO600
      clear HO607
      clear BK587
      clear BK602
      clear BK609
      clear HB
      have HO600 := n0_
      have HO607 := n1_
      have BK587 := n2_
      have BK602 := n3_
      have BK609 := n4_
      have HB := n5_
      clear n0_ n1_ n2_ n3_ n4_ n5_
      refine start_ (n := 9) (S := fun w' => w'.cell? ⟨gb602, 0, none⟩ = some (.int .u64 t596) ∧ w'.cell? ⟨gb602, 1, none⟩ = some (.int .u64 t597) ∧ w'.cell? ⟨gb602, 2, none⟩ = some (.slice Ao153 t598.length co153) ∧ w'.cell? ⟨gb587, 0, none⟩ = some (.int .u64 a0_0) ∧ w'.cell? ⟨gb587, 1, none⟩ = some (.int .u64 a0_1) ∧ w'.cell? ⟨gb587, 2, none⟩ = some (.slice A0_2 l0_2.length c0_2)) (ds := []) #[false, false, false, false, false, false, false, false, false] (by kernel_rfl) rfl rfl ⟨ce BK602 0, ce BK602 1, ce BK602 2, ce BK587 0, ce BK587 1, ce BK587 2⟩ (fun hHeld => ?_); refine with_tabW samphirelaw12_IndexTwice.tab6 samphirelaw12_IndexTwice.bits6 (fun HT_ HW_ => ?_)
      generalize w162.drew = w163 at HO600 HO607 BK587 BK602 BK609 HB hHeld ⊢
      refine ta 0 hHeld ?_
      refine ta 2 hHeld ?_
      refine on1 1 (fun K hK => ?_)
      refine gs Try.func8 #[.agg #[.int .u64 t596, .int .u64 t597, .slice Ao153 t598.length co153]] ?_
      with_reducible refine (samphirelaw12_Ref.calls kj4 t596 t597 _ _ t598 t610 t611 t612 _ ?side1 ?side2 A143.out).mono ?_
      (case side1 => repeat (first | exact (Kd.V_reads' HO600.out).2.2 | (with_reducible refine Kd.C_alloc ?_ _) | (with_reducible refine Kd.C_drewN ?_ _) | (with_reducible refine Kd.C_drew ?_)))
      (case side2 => exact (Kd.V_reads' HO600.out).2.1)
      rintro e w164 ⟨v613, rfl, ho0, hb⟩
      refine ⟨_, rfl, ?_⟩
      have n0_ := Aside0.mk (Kd.V_elder' (pv HO600.out) (Kd.R_base ho0) hb)
      have n1_ := Aside0.mk (Kd.V_elder' (pv HO607.out) (Kd.R_base ho0) hb)
      have n2_ := Aside0.mk (Kd.R_lower ho0 (below_size (pb HB)))
      have n3_ := Aside0.mk (blk_below (pk BK587.out) hb)
      have n4_ := Aside0.mk (blk_below (pk BK602.out) hb)
      have n5_ := Aside0.mk (blk_below (pk BK609.out) hb)
      have n6_ := Aside0.mk (below_step (pb HB) hb)
      clear HO600
      clear HO607
      clear BK587
      clear BK602
      clear BK609
      clear HB
      have HO600 := n0_
      have HO607 := n1_
      have HO614 := n2_
      have BK587 := n3_
      have BK602 := n4_
      have BK609 := n5_
      have HB := n6_
      clear n0_ n1_ n2_ n3_ n4_ n5_ n6_
      (try clear hb)
      (try clear hb2)
      (try clear hk)
      (try clear hi)
      (try clear ho0)
      refine hK.out _ _ ⟨ce BK602 0, ce BK602 1, ce BK602 2, ce BK587 0, ce BK587 1, ce BK587 2⟩ (fun hHeld => ?_)
      clear hK K
      refine nm ?_
      refine on1 3 (fun K hK => ?_)
      refine gs Try.func8 #[.agg #[.int .u64 a0_0, .int .u64 a0_1, .slice A0_2 l0_2.length c0_2]] ?_
      with_reducible refine (samphirelaw12_Ref.calls kj4 a0_0 a0_1 _ _ l0_2 t615 t616 t617 _ ?side1 ?side2 A144.out).mono ?_
      (case side1 => repeat (first | exact (Kd.C_below HR0_2.out HB.out) | (with_reducible refine Kd.C_alloc ?_ _) | (with_reducible refine Kd.C_drewN ?_ _) | (with_reducible refine Kd.C_drew ?_)))
      (case side2 => exact HC0_2.out)
      rintro e w165 ⟨v618, rfl, ho0, hb⟩
      refine ⟨_, rfl, ?_⟩
      have n0_ := Aside0.mk (Kd.V_elder' (pv HO600.out) (Kd.R_base ho0) hb)
      have n1_ := Aside0.mk (Kd.V_elder' (pv HO607.out) (Kd.R_base ho0) hb)
      have n2_ := Aside0.mk (Kd.R_elder' (pr HO614.out) (Kd.R_base ho0) hb)
      have n3_ := Aside0.mk (Kd.R_lower (Kd.R_new' ho0 (Kd.R_lt (pr HO614.out))) (below_size (pb HB)))
      have n4_ := Aside0.mk (blk_below (pk BK587.out) hb)
      have n5_ := Aside0.mk (blk_below (pk BK602.out) hb)
      have n6_ := Aside0.mk (blk_below (pk BK609.out) hb)
      have n7_ := Aside0.mk (below_step (pb HB) hb)
      clear HO600
      clear HO607
      clear HO614
      clear BK587
      clear BK602
      clear BK609
      clear HB
      have HO600 := n0_
      have HO607 := n1_
      have HO614 := n2_
      have HO619 := n3_
      have BK587 := n4_
      have BK602 := n5_
      have BK609 := n6_
      have HB := n7_
      clear n0_ n1_ n2_ n3_ n4_ n5_ n6_ n7_
      (try clear hb)
      (try clear hb2)
      (try clear hk)
      (try clear hi)
      (try clear ho0)
      obtain ⟨Ao166, co166, eo166⟩ := Kd.R_slice HO614.out
      (first | subst eo166 | (injection eo166 with f1_ f2_ f3_; have f4_ := f1_.symm; have f5_ := f3_.symm; clear f1_ f2_ f3_; subst f4_; subst f5_))
      obtain ⟨Ao167, co167, eo167⟩ := Kd.R_slice HO619.out
      (first | subst eo167 | (injection eo167 with f1_ f2_ f3_; have f4_ := f1_.symm; have f5_ := f3_.symm; clear f1_ f2_ f3_; subst f4_; subst f5_))
      refine hK.out _ _ ⟨ce BK602 0, ce BK602 1, ce BK602 2, ce BK587 0, ce BK587 1, ce BK587 2⟩ (fun hHeld => ?_)
      clear hK K
      refine nm ?_
      refine on1 4 (fun K hK => ?_)
      refine gs Try.func17 #[.agg #[.int .u64 t610, .int .u64 t611, .slice Ao166 t612.length co166], .agg #[.int .u64 t615, .int .u64 t616, .slice Ao167 t617.length co167]] ?_
      with_reducible refine (samphireref12_Same.calls kj4 t610 t611 _ _ t612 t615 t616 _ _ t617 true _ ?side1 ?side2 ?side3 ?side4 A145.out).mono ?_
      (case side1 => repeat (first | exact (Kd.R_reads' HO614.out).2.2 | (with_reducible refine Kd.C_alloc ?_ _) | (with_reducible refine Kd.C_drewN ?_ _) | (with_reducible refine Kd.C_drew ?_)))
      (case side2 => exact (Kd.R_reads' HO614.out).2.1)
      (case side3 => repeat (first | exact (Kd.R_reads' HO619.out).2.2 | (with_reducible refine Kd.C_alloc ?_ _) | (with_reducible refine Kd.C_drewN ?_ _) | (with_reducible refine Kd.C_drew ?_)))
      (case side4 => exact (Kd.R_reads' HO619.out).2.1)
      rintro e w168 ⟨rfl, hb⟩
      refine ⟨_, rfl, ?_⟩
      have n0_ := Aside0.mk (Kd.V_below (pv HO600.out) hb)
      have n1_ := Aside0.mk (Kd.V_below (pv HO607.out) hb)
      have n2_ := Aside0.mk (Kd.R_below (pr HO614.out) hb)
      have n3_ := Aside0.mk (Kd.R_below (pr HO619.out) hb)
      have n4_ := Aside0.mk (blk_below (pk BK587.out) hb)
      have n5_ := Aside0.mk (blk_below (pk BK602.out) hb)
      have n6_ := Aside0.mk (blk_below (pk BK609.out) hb)
      have n7_ := Aside0.mk (below_step (pb HB) hb)
      clear HO600
      clear HO607
      clear HO614
      clear HO619
      clear BK587
      clear BK602
      clear BK609
      clear HB
      have HO600 := n0_
      have HO607 := n1_
      have HO614 := n2_
      have HO619 := n3_
      have BK587 := n4_
      have BK602 := n5_
      have BK609 := n6_
      have HB := n7_
      clear n0_ n1_ n2_ n3_ n4_ n5_ n6_ n7_
      (try clear hb)
      (try clear hb2)
      (try clear hk)
      (try clear hi)
      refine hK.out _ _ ⟨ce BK602 0, ce BK602 1, ce BK602 2, ce BK587 0, ce BK587 1, ce BK587 2⟩ (fun hHeld => ?_)
      clear hK K
      refine nm ?_
      refine pu 5 ?_
      refine on1 6 (fun K hK => ?_)
      refine gs Try.func10 #[] ?_
      with_reducible refine (samphirelaw12_awake.calls kj4  t621 hrT _ A147.out).mono ?_
      rintro e w169 ⟨rfl, hb⟩
      refine ⟨_, rfl, ?_⟩
      have n0_ := Aside0.mk (Kd.V_below (pv HO600.out) hb)
      have n1_ := Aside0.mk (Kd.V_below (pv HO607.out) hb)
      have n2_ := Aside0.mk (Kd.R_below (pr HO614.out) hb)
      have n3_ := Aside0.mk (Kd.R_below (pr HO619.out) hb)
      have n4_ := Aside0.mk (blk_below (pk BK587.out) hb)
      have n5_ := Aside0.mk (blk_below (pk BK602.out) hb)
      have n6_ := Aside0.mk (blk_below (pk BK609.out) hb)
      have n7_ := Aside0.mk (below_step (pb HB) hb)
      clear HO600
      clear HO607
      clear HO614
      clear HO619
      clear BK587
      clear BK602
      clear BK609
      clear HB
      have HO600 := n0_
      have HO607 := n1_
      have HO614 := n2_
      have HO619 := n3_
      have BK587 := n4_
      have BK602 := n5_
      have BK609 := n6_
      have HB := n7_
      clear n0_ n1_ n2_ n3_ n4_ n5_ n6_ n7_
      (try clear hb)
      (try clear hb2)
      (try clear hk)
      (try clear hi)
      refine hK.out _ _ ⟨ce BK602 0, ce BK602 1, ce BK602 2, ce BK587 0, ce BK587 1, ce BK587 2⟩ (fun hHeld => ?_)
      clear hK K
      refine nm ?_
      refine pu 7 ?_
      refine pu 8 ?_
      refine done_ (done_of HT_.out (by kernel_rfl)) ?_
      try go_wp2
      go_ret
      exact ⟨by first | rfl | (simp [errW_none, errW_some] <;> rfl) | (simp [*, errW_none, errW_some] <;> rfl), pb HB⟩
     ·replace c146 := Bool.eq_false_iff.mpr c146
      subst c146
      have H1 : (some false) = some r := by rw [if_neg (show ¬ (false = true) by decide)] at H; exact H
      exact Bool.noConfusion ((Option.some.inj H1).trans hrT.out)
end Go.Proofs.Ytojpmjkphgjmgaa.H
