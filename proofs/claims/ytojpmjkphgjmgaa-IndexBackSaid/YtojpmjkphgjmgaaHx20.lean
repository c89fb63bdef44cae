-- laid by wip/hyb.py (the kit's printer with turns of ours)
import Derived.Test.YtojpmjkphgjmgaaHx0
import Derived.Test.YtojpmjkphgjmgaaHx4
import Derived.Test.YtojpmjkphgjmgaaHx7
import Derived.Test.YtojpmjkphgjmgaaHx9
import Derived.Test.YtojpmjkphgjmgaaHx10
import Derived.Test.YtojpmjkphgjmgaaHx11
import Derived.Test.YtojpmjkphgjmgaaHx15
namespace Go.Proofs.Ytojpmjkphgjmgaa.H
open Go.RowKit Go.Proofs.YtojpmjkphgjmgaaW.PrintWords Go.Proofs.YtojpmjkphgjmgaaW.PrintLast Go.Proofs.YtojpmjkphgjmgaaW.PrintMore Go.Proofs.YtojpmjkphgjmgaaW.Sq
attribute [local go_sem] max2_int min2_int max_two min_two max_three min_three max_four min_four   -- for this text's walks alone
set_option linter.unusedVariables false
set_option linter.unusedSimpArgs false

/-! ### samphirelaw12_IndexBack: function 5 -/
def samphirelaw12_IndexBack.j0 : Nat → ByteArray → Int → Bool → Int → Int → List (S60) → Option (Bool)
 | 0, _, _, _, _, _, _ => none
 | k + 1, x1, x2, x26, x518000, x518001, x518002 => if x26 = true then ((samphirelaw12_awake.f k).bind fun t525 => (some t525)) else ((index_Get.f k x518000 x518001 x518002 x1).bind fun bt526 => (if bt526.2 = true then ((samphirelaw12_awake.f k).bind fun t528 => (some t528)) else ((index_Put.f k x518000 x518001 x518002 x1 x2).bind fun bt529 => (if bt529.2.2.2 = 0 then ((index_Delete.f k bt529.1 bt529.2.1 bt529.2.2.1 x1).bind fun bt548 => (if bt548.2.2.2 = 0 then (if (bt548.2.2.1.length : Int) > (x518002.length : Int) then ((samphirelaw12_awake.f k).bind fun t555 => (some t555)) else ((samphirelaw12_Ref.f k bt548.1 bt548.2.1 bt548.2.2.1).bind fun bt556 => ((samphirelaw12_Ref.f k x518000 x518001 x518002).bind fun bt561 => ((samphireref12_Same.f k bt556.1 bt556.2.1 bt556.2.2 bt561.1 bt561.2.1 bt561.2.2).bind fun t566 => (if t566 = true then ((samphirelaw12_awake.f k).bind fun t567 => (some t567)) else (some false)))))) else (some false))) else ((samphirelaw12_Ref.f k bt529.1 bt529.2.1 bt529.2.2.1).bind fun bt536 => ((samphirelaw12_Ref.f k x518000 x518001 x518002).bind fun bt541 => ((samphireref12_Same.f k bt536.1 bt536.2.1 bt536.2.2 bt541.1 bt541.2.1 bt541.2.2).bind fun t546 => (if t546 = true then ((samphirelaw12_awake.f k).bind fun t547 => (some t547)) else (some false)))))))))
def samphirelaw12_IndexBack.f (k : Nat) (a0_0 : Int) (a0_1 : Int) (l0_2 : List (S60)) (a1 : ByteArray) (a2 : Int) : Option (Bool) := (samphirelaw12_Ref.f k a0_0 a0_1 l0_2).bind fun bt518 => ((samphireref12_Small.f k bt518.1 bt518.2.1 bt518.2.2).bind fun t523 => (if t523 = true then (if (a1.size : Int) > 100 then (samphirelaw12_IndexBack.j0 k a1 a2 true a0_0 a0_1 l0_2) else ((index_Right.f k a0_0 a0_1 l0_2).bind fun t524 => (samphirelaw12_IndexBack.j0 k a1 a2 (!t524) a0_0 a0_1 l0_2))) else (samphirelaw12_IndexBack.j0 k a1 a2 true a0_0 a0_1 l0_2)))
theorem samphirelaw12_IndexBack.mono_l : ∀ k, (∀ y0 y1 y2 y3 y4 y5, LeO (samphirelaw12_IndexBack.j0 k y0 y1 y2 y3 y4 y5) (samphirelaw12_IndexBack.j0 (k + 1) y0 y1 y2 y3 y4 y5))
 | 0 => fun _ _ _ _ _ _ r h => by simp [samphirelaw12_IndexBack.j0] at h
 | k + 1 => by
  have ih0 := samphirelaw12_IndexBack.mono_l k
  ·intro y0 y1 y2 y3 y4 y5
   unfold samphirelaw12_IndexBack.j0
   repeat' first
   | (with_reducible exact ih0 _ _ _ _ _ _)
   | (with_reducible exact index_Delete.mono _ _ _ _ _)
   | (with_reducible exact index_Get.mono _ _ _ _ _)
   | (with_reducible exact index_Put.mono _ _ _ _ _ _)
   | (with_reducible exact index_Right.mono _ _ _ _)
   | (with_reducible exact samphirelaw12_Ref.mono _ _ _ _)
   | (with_reducible exact samphirelaw12_awake.mono _)
   | (with_reducible exact samphireref12_Same.mono _ _ _ _ _ _ _)
   | (with_reducible exact samphireref12_Small.mono _ _ _ _)
   | (with_reducible exact LeO.refl _)
   | (with_reducible exact LeO.none _)
   | (with_reducible refine LeO.ite ?_ ?_)
   | (with_reducible refine LeO.bind ?_ (fun _ => ?_))
   | exact ih0 _ _ _ _ _ _
   | exact index_Delete.mono _ _ _ _ _
   | exact index_Get.mono _ _ _ _ _
   | exact index_Put.mono _ _ _ _ _ _
   | exact index_Right.mono _ _ _ _
   | exact samphirelaw12_Ref.mono _ _ _ _
   | exact samphirelaw12_awake.mono _
   | exact samphireref12_Same.mono _ _ _ _ _ _ _
   | exact samphireref12_Small.mono _ _ _ _
   | exact LeO.none _
   | refine LeO.ite ?_ ?_
   | refine LeO.bind ?_ (fun _ => ?_)
theorem samphirelaw12_IndexBack.mono : ∀ a0 a1 a2 a3 a4 k, LeO (samphirelaw12_IndexBack.f k a0 a1 a2 a3 a4) (samphirelaw12_IndexBack.f (k + 1) a0 a1 a2 a3 a4) := by
 intro a0 a1 a2 a3 a4 k
 have ih0 := samphirelaw12_IndexBack.mono_l k
 unfold samphirelaw12_IndexBack.f
 repeat' first
   | (with_reducible exact ih0 _ _ _ _ _ _)
   | (with_reducible exact index_Delete.mono _ _ _ _ _)
   | (with_reducible exact index_Get.mono _ _ _ _ _)
   | (with_reducible exact index_Put.mono _ _ _ _ _ _)
   | (with_reducible exact index_Right.mono _ _ _ _)
   | (with_reducible exact samphirelaw12_Ref.mono _ _ _ _)
   | (with_reducible exact samphirelaw12_awake.mono _)
   | (with_reducible exact samphireref12_Same.mono _ _ _ _ _ _ _)
   | (with_reducible exact samphireref12_Small.mono _ _ _ _)
   | (with_reducible exact LeO.refl _)
   | (with_reducible exact LeO.none _)
   | (with_reducible refine LeO.ite ?_ ?_)
   | (with_reducible refine LeO.bind ?_ (fun _ => ?_))
   | exact ih0 _ _ _ _ _ _
   | exact index_Delete.mono _ _ _ _ _
   | exact index_Get.mono _ _ _ _ _
   | exact index_Put.mono _ _ _ _ _ _
   | exact index_Right.mono _ _ _ _
   | exact samphirelaw12_Ref.mono _ _ _ _
   | exact samphirelaw12_awake.mono _
   | exact samphireref12_Same.mono _ _ _ _ _ _ _
   | exact samphireref12_Small.mono _ _ _ _
   | exact LeO.none _
   | refine LeO.ite ?_ ?_
   | refine LeO.bind ?_ (fun _ => ?_)
def samphirelaw12_IndexBack.T8 : Bool × List (List Nat × List Nat) := (true, [([], []), ([0], [0]), ([], []), ([2, 1], [2]), ([1, 3, 3], [1, 3]), ([4, 4], [4]), ([5, 5], [5]), ([5, 6], [5, 6]), ([7, 6, 0, 1, 2, 3, 4, 5, 6, 7], [7])])
def samphirelaw12_IndexBack.B8 : List Nat := [0, 1, 0, 7, 15, 31, 63, 127, 255]
theorem samphirelaw12_IndexBack.tab8 : rtab .any (opsOf Try.f5 8) = samphirelaw12_IndexBack.T8 := by kernel_rfl
theorem samphirelaw12_IndexBack.bits8 : waitsOk samphirelaw12_IndexBack.T8.2 samphirelaw12_IndexBack.B8 = true := by kernel_rfl
def samphirelaw12_IndexBack.T10 : Bool × List (List Nat × List Nat) := (true, [([], []), ([0], [0]), ([1], [1]), ([2], [2]), ([3, 2], [2, 3]), ([4, 2], [2, 4]), ([2], [2]), ([6, 2], [2, 6]), ([7, 2], [2, 7]), ([5, 8, 2], [2, 5, 8]), ([9, 2, 2], [2, 9]), ([10], [10]), ([11, 10, 10], [10, 11]), ([10], [10]), ([13, 12, 10], [10, 13]), ([12, 14, 14, 10], [10, 12, 14]), ([10, 15, 2], [2, 10, 15]), ([2, 16], [2, 16]), ([17, 15], [17]), ([18, 18], [18]), ([18, 19], [18, 19]), ([20, 19, 0, 1, 2, 3, 4, 5, 6, 7, 8, 9, 10, 11, 12, 13, 14, 15, 16, 17, 18, 19, 20], [20])])
def samphirelaw12_IndexBack.B10 : List Nat := [0, 1, 3, 7, 15, 31, 7, 71, 199, 511, 1023, 2047, 4095, 2047, 16383, 32767, 65535, 131071, 262143, 524287, 1048575, 2097151]
theorem samphirelaw12_IndexBack.tab10 : rtab .any (opsOf Try.f5 10) = samphirelaw12_IndexBack.T10 := by kernel_rfl
theorem samphirelaw12_IndexBack.bits10 : waitsOk samphirelaw12_IndexBack.T10.2 samphirelaw12_IndexBack.B10 = true := by kernel_rfl
set_option maxHeartbeats 8000000 in
set_option maxRecDepth 100000 in
theorem samphirelaw12_IndexBack.calls (k : Nat) (a0_0 : Int) (a0_1 : Int) (A0_2 : Option Addr) (c0_2 : Nat) (l0_2 : List (S60)) (a1 : ByteArray) (a2 : Int) (r : Bool) (hrT : Aside0 (r = true)) (w : World) (hr0_2 : Kd.C k60 w A0_2 l0_2.length l0_2) (hc0_2 : l0_2.length ≤ c0_2) (h : samphirelaw12_IndexBack.f k a0_0 a0_1 l0_2 a1 a2 = some r) :
  Calls Try.prog 5 #[.agg #[.int .u64 a0_0, .int .u64 a0_1, .slice A0_2 l0_2.length c0_2], .string a1, .int .i64 a2] w fun e w' => e = .returned (.bool r) ∧ Below w.heap.size w w' := by
 have hu27 := Try.underlying27
 have HR0_2 := Aside0.mk hr0_2
 have HC0_2 := Aside0.mk hc0_2
 clear hr0_2 hc0_2
 have HB := Aside0.mk (Below.refl w.heap.size w)
 have H : ((samphirelaw12_Ref.f k a0_0 a0_1 l0_2).bind fun bt518 => ((samphireref12_Small.f k bt518.1 bt518.2.1 bt518.2.2).bind fun t523 => (if t523 = true then (if (a1.size : Int) > 100 then (samphirelaw12_IndexBack.j0 k a1 a2 true a0_0 a0_1 l0_2) else ((index_Right.f k a0_0 a0_1 l0_2).bind fun t524 => (samphirelaw12_IndexBack.j0 k a1 a2 (!t524) a0_0 a0_1 l0_2))) else (samphirelaw12_IndexBack.j0 k a1 a2 true a0_0 a0_1 l0_2)))) = some r := h
 clear h
 have HC4 := Aside0.mk H
 clear H
 go_enter Try.func5, Try.ntmps5
 go_upto_region 1 with (first | ((with_reducible refine gate_dst (N := 3) rfl ?_); (try (refine gate_guard (by rfl) ?_; dsimp only)); refine box_event ?hg (N := 3) ?hd (cs := #[.int .u64 a0_0, .int .u64 a0_1, .slice A0_2 l0_2.length c0_2]) (t := 27) ?hr ?_; (case hd => rfl); (case hg => rfl); (case hr => first | (go_simp; done) | (go_simp; rfl)); intro gb517 hg w5 hbox hb; have n0_ := Aside0.mk (below_step (pb HB) hb); have n1_ := Aside0.mk (hbox); have n2_ := Aside0.mk ((pg hg HB : w.heap.size ≤ gb517)); have n3_ := Aside0.mk ((pg hg HB : w.heap.size ≤ gb517)); clear HB; have HB := n0_; have BK517 := n1_; have GW517 := n2_; have GE517 := n3_; clear n0_ n1_ n2_ n3_; clear hb hbox hg))
 (try simp only [Act.put, List.setIfInBounds_toArray, List.set_cons_zero, List.set_cons_succ])
 go_cut [26] (fun v26 wc => ∃ (kq : Nat) (x26_3 : Bool), v26 = .bool x26_3 ∧ Aside0 (samphirelaw12_IndexBack.j0 kq a1 a2 x26_3 a0_0 a0_1 l0_2 = some r) ∧ Aside0 (kq ≤ k) ∧ Aside0 (wc.heap[gb517]? = some (.cells #[.int .u64 a0_0, .int .u64 a0_1, (.slice A0_2 l0_2.length c0_2)] 27 (0, 0))) ∧ Aside0 (Below w.heap.size w wc))
 case first =>
  have H := HC4.out
  clear HC4
  replace H := Option.bind_eq_some_iff.mp H
  obtain ⟨⟨t518, t519, t520⟩, A60, H⟩ := H
  replace H : ((samphireref12_Small.f k t518 t519 t520).bind fun t523 => (if t523 = true then (if (a1.size : Int) > 100 then (samphirelaw12_IndexBack.j0 k a1 a2 true a0_0 a0_1 l0_2) else ((index_Right.f k a0_0 a0_1 l0_2).bind fun t524 => (samphirelaw12_IndexBack.j0 k a1 a2 (!t524) a0_0 a0_1 l0_2))) else (samphirelaw12_IndexBack.j0 k a1 a2 true a0_0 a0_1 l0_2))) = some r := H
  have A6 := Aside0.mk A60
  clear A60
  replace H := Option.bind_eq_some_iff.mp H
  obtain ⟨t523, A70, H⟩ := H
  replace H : (if t523 = true then (if (a1.size : Int) > 100 then (samphirelaw12_IndexBack.j0 k a1 a2 true a0_0 a0_1 l0_2) else ((index_Right.f k a0_0 a0_1 l0_2).bind fun t524 => (samphirelaw12_IndexBack.j0 k a1 a2 (!t524) a0_0 a0_1 l0_2))) else (samphirelaw12_IndexBack.j0 k a1 a2 true a0_0 a0_1 l0_2)) = some r := H
  have A7 := Aside0.mk A70
  clear A70
  by_cases c8 : t523 = true
  ·subst c8
   have H1 : (if (a1.size : Int) > 100 then (samphirelaw12_IndexBack.j0 k a1 a2 true a0_0 a0_1 l0_2) else ((index_Right.f k a0_0 a0_1 l0_2).bind fun t524 => (samphirelaw12_IndexBack.j0 k a1 a2 (!t524) a0_0 a0_1 l0_2))) = some r := by rw [if_pos rfl] at H; exact H
   clear H
   have H := H1
   clear H1
   by_cases c9 : (a1.size : Int) > 100
   ·rw [if_pos c9] at H
    have c9b0 : decide (100 < (a1.size : Int)) = true := decide_eq_true c9
    have c9b1 : decide (100 < a1.size) = true := decide_eq_true (by omega)
    clear c9
    (first | rw [c9b0] | (simp only [i64_w, i32_w]; rw [c9b0]) | skip)
    have H' := Aside0.mk H
    clear H
    have hcz10_0 := ce BK517 0
    have hcz10_1 := ce BK517 1
    have hcz10_2 := ce BK517 2
    have hfz10_0 := fz BK517 0
    have hfz10_1 := fz BK517 1
    have hfz10_2 := fz BK517 2
    go_wp2_with (first | ((with_reducible refine gate_callee (f := 8) rfl ?_); refine gl (some 14) Try.func8 #[.agg #[.int .u64 a0_0, .int .u64 a0_1, .slice A0_2 l0_2.length c0_2]] ?_; (with_reducible refine (samphirelaw12_Ref.calls k a0_0 a0_1 _ _ l0_2 t518 t519 t520 _ ?side1 ?side2 A6.out).mono ?_); (case side1 => repeat (first | exact (Kd.C_below HR0_2.out HB.out) | (with_reducible refine Kd.C_alloc ?_ _) | (with_reducible refine Kd.C_drewN ?_ _) | (with_reducible refine Kd.C_drew ?_))); (case side2 => exact HC0_2.out); rintro e w11 ⟨v521, rfl, ho0, hb⟩; refine ⟨_, rfl, ?_⟩; have n0_ := Aside0.mk (Kd.R_lower ho0 (below_size (pb HB))); have n1_ := Aside0.mk (blk_below (pk BK517.out) hb); have n2_ := Aside0.mk (below_step (pb HB) hb); clear BK517; clear HB; have HO522 := n0_; have BK517 := n1_; have HB := n2_; clear n0_ n1_ n2_; (try clear hb); (try clear hb2); (try clear hk); (try clear hi); (try clear ho0); obtain ⟨Ao12, co12, eo12⟩ := Kd.R_slice HO522.out; subst eo12) | ((with_reducible refine gate_callee (f := 9) rfl ?_); refine gl (some 15) Try.func9 #[.agg #[.int .u64 t518, .int .u64 t519, .slice Ao12 t520.length co12]] ?_; (with_reducible refine (samphireref12_Small.calls k t518 t519 _ _ t520 true _ ?side1 ?side2 A7.out).mono ?_); (case side1 => repeat (first | exact (Kd.R_reads' HO522.out).2.2 | (with_reducible refine Kd.C_alloc ?_ _) | (with_reducible refine Kd.C_drewN ?_ _) | (with_reducible refine Kd.C_drew ?_))); (case side2 => exact (Kd.R_reads' HO522.out).2.1); rintro e w13 ⟨rfl, hb⟩; refine ⟨_, rfl, ?_⟩; have n0_ := Aside0.mk (Kd.R_below (pr HO522.out) hb); have n1_ := Aside0.mk (blk_below (pk BK517.out) hb); have n2_ := Aside0.mk (below_step (pb HB) hb); clear HO522; clear BK517; clear HB; have HO522 := n0_; have BK517 := n1_; have HB := n2_; clear n0_ n1_ n2_; (try clear hb); (try clear hb2); (try clear hk); (try clear hi)))
    go_meet
    case rel => exact ⟨_, (true), (by first | rfl | (simp; done) | (simp [*]; done)), H', ⟨by first | omega | exact Nat.le_refl _⟩, ⟨pk BK517.out⟩, ⟨pb HB⟩⟩
   ·rw [if_neg c9] at H
    have c9b0 : decide (100 < (a1.size : Int)) = false := decide_eq_false c9
    have c9b1 : decide (100 < a1.size) = false := decide_eq_false (by omega)
    clear c9
    (first | rw [c9b0] | (simp only [i64_w, i32_w]; rw [c9b0]) | skip)
    replace H := Option.bind_eq_some_iff.mp H
    obtain ⟨t524, A140, H⟩ := H
    replace H : (samphirelaw12_IndexBack.j0 k a1 a2 (!t524) a0_0 a0_1 l0_2) = some r := H
    have A14 := Aside0.mk A140
    clear A140
    have H' := Aside0.mk H
    clear H
    have hcz15_0 := ce BK517 0
    have hcz15_1 := ce BK517 1
    have hcz15_2 := ce BK517 2
    have hfz15_0 := fz BK517 0
    have hfz15_1 := fz BK517 1
    have hfz15_2 := fz BK517 2
    go_wp2_with (first | ((with_reducible refine gate_callee (f := 8) rfl ?_); refine gl (some 14) Try.func8 #[.agg #[.int .u64 a0_0, .int .u64 a0_1, .slice A0_2 l0_2.length c0_2]] ?_; (with_reducible refine (samphirelaw12_Ref.calls k a0_0 a0_1 _ _ l0_2 t518 t519 t520 _ ?side1 ?side2 A6.out).mono ?_); (case side1 => repeat (first | exact (Kd.C_below HR0_2.out HB.out) | (with_reducible refine Kd.C_alloc ?_ _) | (with_reducible refine Kd.C_drewN ?_ _) | (with_reducible refine Kd.C_drew ?_))); (case side2 => exact HC0_2.out); rintro e w16 ⟨v521, rfl, ho0, hb⟩; refine ⟨_, rfl, ?_⟩; have n0_ := Aside0.mk (Kd.R_lower ho0 (below_size (pb HB))); have n1_ := Aside0.mk (blk_below (pk BK517.out) hb); have n2_ := Aside0.mk (below_step (pb HB) hb); clear BK517; clear HB; have HO522 := n0_; have BK517 := n1_; have HB := n2_; clear n0_ n1_ n2_; (try clear hb); (try clear hb2); (try clear hk); (try clear hi); (try clear ho0); obtain ⟨Ao17, co17, eo17⟩ := Kd.R_slice HO522.out; subst eo17) | ((with_reducible refine gate_callee (f := 9) rfl ?_); refine gl (some 15) Try.func9 #[.agg #[.int .u64 t518, .int .u64 t519, .slice Ao17 t520.length co17]] ?_; (with_reducible refine (samphireref12_Small.calls k t518 t519 _ _ t520 true _ ?side1 ?side2 A7.out).mono ?_); (case side1 => repeat (first | exact (Kd.R_reads' HO522.out).2.2 | (with_reducible refine Kd.C_alloc ?_ _) | (with_reducible refine Kd.C_drewN ?_ _) | (with_reducible refine Kd.C_drew ?_))); (case side2 => exact (Kd.R_reads' HO522.out).2.1); rintro e w18 ⟨rfl, hb⟩; refine ⟨_, rfl, ?_⟩; have n0_ := Aside0.mk (Kd.R_below (pr HO522.out) hb); have n1_ := Aside0.mk (blk_below (pk BK517.out) hb); have n2_ := Aside0.mk (below_step (pb HB) hb); clear HO522; clear BK517; clear HB; have HO522 := n0_; have BK517 := n1_; have HB := n2_; clear n0_ n1_ n2_; (try clear hb); (try clear hb2); (try clear hk); (try clear hi); have hcz19_0 := ce BK517 0; have hcz19_1 := ce BK517 1; have hcz19_2 := ce BK517 2; have hfz19_0 := fz BK517 0; have hfz19_1 := fz BK517 1; have hfz19_2 := fz BK517 2) | (go_at_call 15; (with_reducible refine (index_Right.calls k a0_0 a0_1 _ _ l0_2 t524 _ ?side1 ?side2 A14.out).mono ?_); (case side1 => repeat (first | exact (Kd.C_below HR0_2.out HB.out) | (with_reducible refine Kd.C_alloc ?_ _) | (with_reducible refine Kd.C_drewN ?_ _) | (with_reducible refine Kd.C_drew ?_))); (case side2 => exact HC0_2.out); rintro e w20 ⟨rfl, hb⟩; have n0_ := Aside0.mk (Kd.R_below (pr HO522.out) hb); have n1_ := Aside0.mk (blk_below (pk BK517.out) hb); have n2_ := Aside0.mk (below_step (pb HB) hb); clear HO522; clear BK517; clear HB; have HO522 := n0_; have BK517 := n1_; have HB := n2_; clear n0_ n1_ n2_; (try clear hb); (try clear hb2); (try clear hk); (try clear hi)))
    go_meet
    case rel => exact ⟨_, (!t524), (by first | rfl | (simp; done) | (simp [*]; done)), H', ⟨by first | omega | exact Nat.le_refl _⟩, ⟨pk BK517.out⟩, ⟨pb HB⟩⟩
  ·replace c8 := Bool.eq_false_iff.mpr c8
   subst c8
   have H1 : (samphirelaw12_IndexBack.j0 k a1 a2 true a0_0 a0_1 l0_2) = some r := by rw [if_neg (show ¬ (false = true) by decide)] at H; exact H
   clear H
   have H := H1
   clear H1
   have H' := Aside0.mk H
   clear H
   have hcz21_0 := ce BK517 0
   have hcz21_1 := ce BK517 1
   have hcz21_2 := ce BK517 2
   have hfz21_0 := fz BK517 0
   have hfz21_1 := fz BK517 1
   have hfz21_2 := fz BK517 2
   go_wp2_with (first | ((with_reducible refine gate_callee (f := 8) rfl ?_); refine gl (some 14) Try.func8 #[.agg #[.int .u64 a0_0, .int .u64 a0_1, .slice A0_2 l0_2.length c0_2]] ?_; (with_reducible refine (samphirelaw12_Ref.calls k a0_0 a0_1 _ _ l0_2 t518 t519 t520 _ ?side1 ?side2 A6.out).mono ?_); (case side1 => repeat (first | exact (Kd.C_below HR0_2.out HB.out) | (with_reducible refine Kd.C_alloc ?_ _) | (with_reducible refine Kd.C_drewN ?_ _) | (with_reducible refine Kd.C_drew ?_))); (case side2 => exact HC0_2.out); rintro e w22 ⟨v521, rfl, ho0, hb⟩; refine ⟨_, rfl, ?_⟩; have n0_ := Aside0.mk (Kd.R_lower ho0 (below_size (pb HB))); have n1_ := Aside0.mk (blk_below (pk BK517.out) hb); have n2_ := Aside0.mk (below_step (pb HB) hb); clear BK517; clear HB; have HO522 := n0_; have BK517 := n1_; have HB := n2_; clear n0_ n1_ n2_; (try clear hb); (try clear hb2); (try clear hk); (try clear hi); (try clear ho0); obtain ⟨Ao23, co23, eo23⟩ := Kd.R_slice HO522.out; subst eo23) | ((with_reducible refine gate_callee (f := 9) rfl ?_); refine gl (some 15) Try.func9 #[.agg #[.int .u64 t518, .int .u64 t519, .slice Ao23 t520.length co23]] ?_; (with_reducible refine (samphireref12_Small.calls k t518 t519 _ _ t520 false _ ?side1 ?side2 A7.out).mono ?_); (case side1 => repeat (first | exact (Kd.R_reads' HO522.out).2.2 | (with_reducible refine Kd.C_alloc ?_ _) | (with_reducible refine Kd.C_drewN ?_ _) | (with_reducible refine Kd.C_drew ?_))); (case side2 => exact (Kd.R_reads' HO522.out).2.1); rintro e w24 ⟨rfl, hb⟩; refine ⟨_, rfl, ?_⟩; have n0_ := Aside0.mk (Kd.R_below (pr HO522.out) hb); have n1_ := Aside0.mk (blk_below (pk BK517.out) hb); have n2_ := Aside0.mk (below_step (pb HB) hb); clear HO522; clear BK517; clear HB; have HO522 := n0_; have BK517 := n1_; have HB := n2_; clear n0_ n1_ n2_; (try clear hb); (try clear hb2); (try clear hk); (try clear hi)))
   go_meet
   case rel => exact ⟨_, (true), (by first | rfl | (simp; done) | (simp [*]; done)), H', ⟨by first | omega | exact Nat.le_refl _⟩, ⟨pk BK517.out⟩, ⟨pb HB⟩⟩
 case rest =>
  clear HC4
  try clear p2
  try clear c5
  try clear c8
  try clear c9
  try clear c9b0
  try clear c9b1
  try clear hcz10_0 hcz10_1 hcz10_2
  try clear hcz15_0 hcz15_1 hcz15_2
  try clear hcz19_0 hcz19_1 hcz19_2
  try clear hcz21_0 hcz21_1 hcz21_2
  try clear hfz10_0 hfz10_1 hfz10_2
  try clear hfz15_0 hfz15_1 hfz15_2
  try clear hfz19_0 hfz19_1 hfz19_2
  try clear hfz21_0 hfz21_1 hfz21_2
  obtain ⟨kq, x26_3, rfl, HA, HJ3, BK517, HB⟩ := hcut
  cases kq with
  | zero => exact absurd HA.out (by simp [samphirelaw12_IndexBack.j0])
  | succ kj3 =>
   have H := HA.out
   clear HA
   simp only [samphirelaw12_IndexBack.j0] at H
   by_cases c25 : x26_3 = true
   ·subst c25
    have H1 : ((samphirelaw12_awake.f kj3).bind fun t525 => (some t525)) = some r := by rw [if_pos rfl] at H; exact H
    clear H
    have H := H1
    clear H1
    replace H := Option.bind_eq_some_iff.mp H
    obtain ⟨t525, A260, H⟩ := H
    replace H : (some t525) = some r := H
    have A26 := Aside0.mk A260
    clear A260
    obtain rfl := Option.some.inj H
    go_wp2_with (first | ((with_reducible refine gate_callee (f := 10) rfl ?_); refine gl (some 27) Try.func10 #[] ?_; (with_reducible refine (samphirelaw12_awake.calls kj3  t525 hrT _ A26.out).mono ?_); rintro e w27 ⟨rfl, hb⟩; refine ⟨_, rfl, ?_⟩; have n0_ := Aside0.mk (blk_below (pk BK517.out) hb); have n1_ := Aside0.mk (below_step (pb HB) hb); clear BK517; clear HB; have BK517 := n0_; have HB := n1_; clear n0_ n1_; (try clear hb); (try clear hb2); (try clear hk); (try clear hi)))
    go_ret
    exact ⟨by first | rfl | (simp [errW_none, errW_some] <;> rfl) | (simp [*, errW_none, errW_some] <;> rfl), pb HB⟩
   ·replace c25 := Bool.eq_false_iff.mpr c25
    subst c25
    have H1 : ((index_Get.f kj3 a0_0 a0_1 l0_2 a1).bind fun bt526 => (if bt526.2 = true then ((samphirelaw12_awake.f kj3).bind fun t528 => (some t528)) else ((index_Put.f kj3 a0_0 a0_1 l0_2 a1 a2).bind fun bt529 => (if bt529.2.2.2 = 0 then ((index_Delete.f kj3 bt529.1 bt529.2.1 bt529.2.2.1 a1).bind fun bt548 => (if bt548.2.2.2 = 0 then (if (bt548.2.2.1.length : Int) > (l0_2.length : Int) then ((samphirelaw12_awake.f kj3).bind fun t555 => (some t555)) else ((samphirelaw12_Ref.f kj3 bt548.1 bt548.2.1 bt548.2.2.1).bind fun bt556 => ((samphirelaw12_Ref.f kj3 a0_0 a0_1 l0_2).bind fun bt561 => ((samphireref12_Same.f kj3 bt556.1 bt556.2.1 bt556.2.2 bt561.1 bt561.2.1 bt561.2.2).bind fun t566 => (if t566 = true then ((samphirelaw12_awake.f kj3).bind fun t567 => (some t567)) else (some false)))))) else (some false))) else ((samphirelaw12_Ref.f kj3 bt529.1 bt529.2.1 bt529.2.2.1).bind fun bt536 => ((samphirelaw12_Ref.f kj3 a0_0 a0_1 l0_2).bind fun bt541 => ((samphireref12_Same.f kj3 bt536.1 bt536.2.1 bt536.2.2 bt541.1 bt541.2.1 bt541.2.2).bind fun t546 => (if t546 = true then ((samphirelaw12_awake.f kj3).bind fun t547 => (some t547)) else (some false))))))))) = some r := by rw [if_neg (show ¬ (false = true) by decide)] at H; exact H
    clear H
    have H := H1
    clear H1
    replace H := Option.bind_eq_some_iff.mp H
    obtain ⟨⟨t526, t527⟩, A280, H⟩ := H
    replace H : (if t527 = true then ((samphirelaw12_awake.f kj3).bind fun t528 => (some t528)) else ((index_Put.f kj3 a0_0 a0_1 l0_2 a1 a2).bind fun bt529 => (if bt529.2.2.2 = 0 then ((index_Delete.f kj3 bt529.1 bt529.2.1 bt529.2.2.1 a1).bind fun bt548 => (if bt548.2.2.2 = 0 then (if (bt548.2.2.1.length : Int) > (l0_2.length : Int) then ((samphirelaw12_awake.f kj3).bind fun t555 => (some t555)) else ((samphirelaw12_Ref.f kj3 bt548.1 bt548.2.1 bt548.2.2.1).bind fun bt556 => ((samphirelaw12_Ref.f kj3 a0_0 a0_1 l0_2).bind fun bt561 => ((samphireref12_Same.f kj3 bt556.1 bt556.2.1 bt556.2.2 bt561.1 bt561.2.1 bt561.2.2).bind fun t566 => (if t566 = true then ((samphirelaw12_awake.f kj3).bind fun t567 => (some t567)) else (some false)))))) else (some false))) else ((samphirelaw12_Ref.f kj3 bt529.1 bt529.2.1 bt529.2.2.1).bind fun bt536 => ((samphirelaw12_Ref.f kj3 a0_0 a0_1 l0_2).bind fun bt541 => ((samphireref12_Same.f kj3 bt536.1 bt536.2.1 bt536.2.2 bt541.1 bt541.2.1 bt541.2.2).bind fun t546 => (if t546 = true then ((samphirelaw12_awake.f kj3).bind fun t547 => (some t547)) else (some false)))))))) = some r := H
    have A28 := Aside0.mk A280
    clear A280
    by_cases c29 : t527 = true
    ·subst c29
     have H1 : ((samphirelaw12_awake.f kj3).bind fun t528 => (some t528)) = some r := by rw [if_pos rfl] at H; exact H
     clear H
     have H := H1
     clear H1
     replace H := Option.bind_eq_some_iff.mp H
     obtain ⟨t528, A300, H⟩ := H
     replace H : (some t528) = some r := H
     have A30 := Aside0.mk A300
     clear A300
     obtain rfl := Option.some.inj H
     have hcz31_0 := ce BK517 0
     have hcz31_1 := ce BK517 1
     have hcz31_2 := ce BK517 2
     have hfz31_0 := fz BK517 0
     have hfz31_1 := fz BK517 1
     have hfz31_2 := fz BK517 2
     go_wp2_with (first | ((with_reducible refine gate_callee (f := 12) rfl ?_); refine gl (some 31) Try.func12 #[.agg #[.int .u64 a0_0, .int .u64 a0_1, .slice A0_2 l0_2.length c0_2], .string a1] ?_; (with_reducible refine (index_Get.calls kj3 a0_0 a0_1 _ _ l0_2 a1 t526 true _ ?side1 ?side2 A28.out).mono ?_); (case side1 => repeat (first | exact (Kd.C_below HR0_2.out HB.out) | (with_reducible refine Kd.C_alloc ?_ _) | (with_reducible refine Kd.C_drewN ?_ _) | (with_reducible refine Kd.C_drew ?_))); (case side2 => exact HC0_2.out); rintro e w32 ⟨rfl, hb⟩; refine ⟨_, rfl, ?_⟩; have n0_ := Aside0.mk (blk_below (pk BK517.out) hb); have n1_ := Aside0.mk (below_step (pb HB) hb); clear BK517; clear HB; have BK517 := n0_; have HB := n1_; clear n0_ n1_; (try clear hb); (try clear hb2); (try clear hk); (try clear hi)) | ((with_reducible refine gate_callee (f := 10) rfl ?_); refine gl (some 35) Try.func10 #[] ?_; (with_reducible refine (samphirelaw12_awake.calls kj3  t528 hrT _ A30.out).mono ?_); rintro e w33 ⟨rfl, hb⟩; refine ⟨_, rfl, ?_⟩; have n0_ := Aside0.mk (blk_below (pk BK517.out) hb); have n1_ := Aside0.mk (below_step (pb HB) hb); clear BK517; clear HB; have BK517 := n0_; have HB := n1_; clear n0_ n1_; (try clear hb); (try clear hb2); (try clear hk); (try clear hi)))
     go_ret
     exact ⟨by first | rfl | (simp [errW_none, errW_some] <;> rfl) | (simp [*, errW_none, errW_some] <;> rfl), pb HB⟩
    ·replace c29 := Bool.eq_false_iff.mpr c29
     subst c29
     have H1 : ((index_Put.f kj3 a0_0 a0_1 l0_2 a1 a2).bind fun bt529 => (if bt529.2.2.2 = 0 then ((index_Delete.f kj3 bt529.1 bt529.2.1 bt529.2.2.1 a1).bind fun bt548 => (if bt548.2.2.2 = 0 then (if (bt548.2.2.1.length : Int) > (l0_2.length : Int) then ((samphirelaw12_awake.f kj3).bind fun t555 => (some t555)) else ((samphirelaw12_Ref.f kj3 bt548.1 bt548.2.1 bt548.2.2.1).bind fun bt556 => ((samphirelaw12_Ref.f kj3 a0_0 a0_1 l0_2).bind fun bt561 => ((samphireref12_Same.f kj3 bt556.1 bt556.2.1 bt556.2.2 bt561.1 bt561.2.1 bt561.2.2).bind fun t566 => (if t566 = true then ((samphirelaw12_awake.f kj3).bind fun t567 => (some t567)) else (some false)))))) else (some false))) else ((samphirelaw12_Ref.f kj3 bt529.1 bt529.2.1 bt529.2.2.1).bind fun bt536 => ((samphirelaw12_Ref.f kj3 a0_0 a0_1 l0_2).bind fun bt541 => ((samphireref12_Same.f kj3 bt536.1 bt536.2.1 bt536.2.2 bt541.1 bt541.2.1 bt541.2.2).bind fun t546 => (if t546 = true then ((samphirelaw12_awake.f kj3).bind fun t547 => (some t547)) else (some false))))))) = some r := by rw [if_neg (show ¬ (false = true) by decide)] at H; exact H
     clear H
     have H := H1
     clear H1
     replace H := Option.bind_eq_some_iff.mp H
     obtain ⟨⟨t529, t530, t531, t534⟩, A340, H⟩ := H
     replace H : (if t534 = 0 then ((index_Delete.f kj3 t529 t530 t531 a1).bind fun bt548 => (if bt548.2.2.2 = 0 then (if (bt548.2.2.1.length : Int) > (l0_2.length : Int) then ((samphirelaw12_awake.f kj3).bind fun t555 => (some t555)) else ((samphirelaw12_Ref.f kj3 bt548.1 bt548.2.1 bt548.2.2.1).bind fun bt556 => ((samphirelaw12_Ref.f kj3 a0_0 a0_1 l0_2).bind fun bt561 => ((samphireref12_Same.f kj3 bt556.1 bt556.2.1 bt556.2.2 bt561.1 bt561.2.1 bt561.2.2).bind fun t566 => (if t566 = true then ((samphirelaw12_awake.f kj3).bind fun t567 => (some t567)) else (some false)))))) else (some false))) else ((samphirelaw12_Ref.f kj3 t529 t530 t531).bind fun bt536 => ((samphirelaw12_Ref.f kj3 a0_0 a0_1 l0_2).bind fun bt541 => ((samphireref12_Same.f kj3 bt536.1 bt536.2.1 bt536.2.2 bt541.1 bt541.2.1 bt541.2.2).bind fun t546 => (if t546 = true then ((samphirelaw12_awake.f kj3).bind fun t547 => (some t547)) else (some false)))))) = some r := H
     have A34 := Aside0.mk A340
     clear A340
     by_cases c35 : t534 = 0
     ·rw [if_pos c35] at H
      have c35b0 : (t534 == 0) = true := beq_iff_eq.mpr c35
      have c35b1 : (t534 != 0) = false := bne_eq_false_iff_eq.mpr c35
      clear c35
      replace H := Option.bind_eq_some_iff.mp H
      obtain ⟨⟨t548, t549, t550, t553⟩, A360, H⟩ := H
      replace H : (if t553 = 0 then (if (t550.length : Int) > (l0_2.length : Int) then ((samphirelaw12_awake.f kj3).bind fun t555 => (some t555)) else ((samphirelaw12_Ref.f kj3 t548 t549 t550).bind fun bt556 => ((samphirelaw12_Ref.f kj3 a0_0 a0_1 l0_2).bind fun bt561 => ((samphireref12_Same.f kj3 bt556.1 bt556.2.1 bt556.2.2 bt561.1 bt561.2.1 bt561.2.2).bind fun t566 => (if t566 = true then ((samphirelaw12_awake.f kj3).bind fun t567 => (some t567)) else (some false)))))) else (some false)) = some r := H
      have A36 := Aside0.mk A360
      clear A360
      by_cases c37 : t553 = 0
      ·rw [if_pos c37] at H
       have c37b0 : (t553 == 0) = true := beq_iff_eq.mpr c37
       have c37b1 : (t553 != 0) = false := bne_eq_false_iff_eq.mpr c37
       clear c37
       by_cases c38 : (t550.length : Int) > (l0_2.length : Int)
       ·rw [if_pos c38] at H
        have c38b0 : decide ((l0_2.length : Int) < (t550.length : Int)) = true := decide_eq_true c38
        have c38b1 : decide (l0_2.length < t550.length) = true := decide_eq_true (Int.ofNat_lt.mp c38)
        clear c38
        replace H := Option.bind_eq_some_iff.mp H
        obtain ⟨t555, A390, H⟩ := H
        replace H : (some t555) = some r := H
        have A39 := Aside0.mk A390
        clear A390
        obtain rfl := Option.some.inj H
        have hcz40_0 := ce BK517 0
        have hcz40_1 := ce BK517 1
        have hcz40_2 := ce BK517 2
        have hfz40_0 := fz BK517 0
        have hfz40_1 := fz BK517 1
        have hfz40_2 := fz BK517 2
        try go_wp2_with (first | ((with_reducible refine gate_callee (f := 12) rfl ?_); refine gl (some 31) Try.func12 #[.agg #[.int .u64 a0_0, .int .u64 a0_1, .slice A0_2 l0_2.length c0_2], .string a1] ?_; (with_reducible refine (index_Get.calls kj3 a0_0 a0_1 _ _ l0_2 a1 t526 false _ ?side1 ?side2 A28.out).mono ?_); (case side1 => repeat (first | exact (Kd.C_below HR0_2.out HB.out) | (with_reducible refine Kd.C_alloc ?_ _) | (with_reducible refine Kd.C_drewN ?_ _) | (with_reducible refine Kd.C_drew ?_))); (case side2 => exact HC0_2.out); rintro e w41 ⟨rfl, hb⟩; refine ⟨_, rfl, ?_⟩; have n0_ := Aside0.mk (blk_below (pk BK517.out) hb); have n1_ := Aside0.mk (below_step (pb HB) hb); clear BK517; clear HB; have BK517 := n0_; have HB := n1_; clear n0_ n1_; (try clear hb); (try clear hb2); (try clear hk); (try clear hi); have hcz42_0 := ce BK517 0; have hcz42_1 := ce BK517 1; have hcz42_2 := ce BK517 2; have hfz42_0 := fz BK517 0; have hfz42_1 := fz BK517 1; have hfz42_2 := fz BK517 2) | ((with_reducible refine gate_callee (f := 13) rfl ?_); refine gl (some 40) Try.func13 #[.agg #[.int .u64 a0_0, .int .u64 a0_1, .slice A0_2 l0_2.length c0_2], .string a1, .int .i64 a2] ?_; (with_reducible refine (index_Put.calls kj3 a0_0 a0_1 (fun k_ => k_ < w.heap.size) _ _ l0_2 a1 a2 t529 t530 t531 t534 _ ?side1 A34.out).mono ?_); (case side1 => exact Kd.V_mk HC0_2.out (Kd.F_below (Kd.C_F k60_heap HR0_2.out) (pb HB))); rintro e w43 ⟨v532, rfl, ho0, hb⟩; refine ⟨_, rfl, ?_⟩; have n0_ := Aside0.mk (Kd.V_lower (Kd.V_mono (ok' := fun k_ => k_ ≠ gb517) ho0 (fun k_ hk_ => Or.elim hk_ (fun hs_ => fun e_ => Nat.not_le.2 hs_ (by rw [e_]; exact GW517.out)) (fun hn_ => (Kd.freshB (g := gb517) (o := .cells #[.int .u64 a0_0, .int .u64 a0_1, .slice A0_2 l0_2.length c0_2] 27 (0, 0)) (pk BK517.out) k_ hn_)))) (below_size (pb HB))); have n1_ := Aside0.mk (blk_below (pk BK517.out) hb); have n2_ := Aside0.mk (below_step (pb HB) hb); clear BK517; clear HB; have HO533 := n0_; have BK517 := n1_; have HB := n2_; clear n0_ n1_ n2_; (try clear hb); (try clear hb2); (try clear hk); (try clear hi); (try clear ho0)) | ((with_reducible refine gate_dst (N := 9) rfl ?_); (try (refine gate_guard (by rfl) ?_; dsimp only)); refine box_event ?hg (N := 9) ?hd (cs := #[.int .u64 0, .int .u64 0, .slice none 0 0]) (t := 27) ?hr ?_; (case hd => rfl); (case hg => rfl); (case hr => first | (go_simp; done) | (go_simp; rfl)); intro gb535 hg w44 hbox hb; have n0_ := Aside0.mk (Kd.V_below (Kd.V_elderB (pv HO533.out) gb535 (Nat.le_of_eq hg.symm)) hb); have n1_ := Aside0.mk (blk_below (pk BK517.out) hb); have n2_ := Aside0.mk (below_step (pb HB) hb); have n3_ := Aside0.mk (hbox); have n4_ := Aside0.mk ((pg hg HB : w.heap.size ≤ gb535)); have n5_ := Aside0.mk ((pg hg HB : w.heap.size ≤ gb535)); have n6_ := Aside0.mk ((pl hg (pk BK517.out) : gb517 ≠ gb535)); have n7_ := Aside0.mk ((pl' hg (pk BK517.out) : gb535 ≠ gb517)); clear HO533; clear BK517; clear HB; have HO533 := n0_; have BK517 := n1_; have HB := n2_; have BK535 := n3_; have GW535 := n4_; have GE535 := n5_; have NB517_535 := n6_; have NB535_517 := n7_; clear n0_ n1_ n2_ n3_ n4_ n5_ n6_ n7_; clear hb hbox hg; have hnb45 := NB535_517.out; have hnc45 := NB517_535.out; have hcz46_0 := ce BK535 0; have hcz46_1 := ce BK535 1; have hcz46_2 := ce BK535 2; have hfz46_0 := fz BK535 0; have hfz46_1 := fz BK535 1; have hfz46_2 := fz BK535 2; obtain ⟨Ao47, co47, eo47⟩ := Kd.V_slice HO533.out; subst eo47) | ((with_reducible refine gate_store (t := 27) (p := 9) rfl ?_); refine store_event (t := 27) (p := 9) (v := ?vo_w48) (w1 := (((w44.setCell ⟨gb535, 0, none⟩ (.int .u64 t529)).setCell ⟨gb535, 1, none⟩ (.int .u64 t530)).setCell ⟨gb535, 2, none⟩ (.slice Ao47 t531.length co47))) ?hg ?ho ?hn ?hr ?_; (case ho => rfl); (case hg => rfl); (case hn => rfl); (case hr => first | (go_simp; done) | (go_simp; rfl)); intro w48 hw; have n0_ : Aside0 (Kd.V k60 60 w48 w.heap.size (fun k_ => k_ ≠ gb517 ∧ k_ ≠ gb535) (.slice Ao47 t531.length co47) t531) := ⟨(by rw [hw]; exact (pv (Kd.V_mono (Kd.V_far (p := ⟨gb535, 2, none⟩) (Kd.V_far (p := ⟨gb535, 1, none⟩) (Kd.V_far (p := ⟨gb535, 0, none⟩) (Kd.V_mono HO533.out (fun k_ hk => (⟨hk, hk.2⟩ : _ ∧ k_ ≠ gb535))) (fun _ hk => hk.2) (.int .u64 t529)) (fun _ hk => hk.2) (.int .u64 t530)) (fun _ hk => hk.2) (.slice Ao47 t531.length co47)) (fun _ hk => ⟨hk.1.1, hk.1.2⟩))))⟩; have n1_ : Aside0 (w48.heap[gb517]? = some (.cells #[.int .u64 a0_0, .int .u64 a0_1, .slice A0_2 l0_2.length c0_2] 27 (0, 0))) := ⟨(by rw [hw]; exact (by refine pk ?_; refine blk_far ?_ NB517_535.out _; refine pk ?_; refine blk_far ?_ NB517_535.out _; refine pk ?_; refine blk_far ?_ NB517_535.out _; refine pk ?_; exact BK517.out))⟩; have n2_ : Aside0 (w48.heap[gb535]? = some (.cells #[.int .u64 t529, .int .u64 t530, .slice Ao47 t531.length co47] 27 (0, 0))) := ⟨(by rw [hw]; exact (by refine pk ?_; refine blk_put (cs := #[.int .u64 t529, .int .u64 t530, .slice none 0 0]) ?_ 2 _ rfl; refine pk ?_; refine blk_put (cs := #[.int .u64 t529, .int .u64 0, .slice none 0 0]) ?_ 1 _ rfl; refine pk ?_; refine blk_put (cs := #[.int .u64 0, .int .u64 0, .slice none 0 0]) ?_ 0 _ rfl; refine pk ?_; exact BK535.out))⟩; have n3_ : Aside0 (Below w.heap.size w w48) := ⟨(by rw [hw]; exact (pb HB))⟩; clear hw; clear HO533; clear BK517; clear BK535; clear HB; have HO533 := n0_; have BK517 := n1_; have BK535 := n2_; have HB := n3_; clear n0_ n1_ n2_ n3_; have hcz49_0 := ce BK535 0; have hcz49_1 := ce BK535 1; have hcz49_2 := ce BK535 2; have hfz49_0 := fz BK535 0; have hfz49_1 := fz BK535 1; have hfz49_2 := fz BK535 2) | ((with_reducible refine gate_callee (f := 14) rfl ?_); refine gl (some 56) Try.func14 #[.agg #[.int .u64 t529, .int .u64 t530, .slice Ao47 t531.length co47], .string a1] ?_; (with_reducible refine (index_Delete.calls kj3 t529 t530 (fun k_ => (k_ ≠ gb517 ∧ k_ ≠ gb535)) _ _ t531 a1 t548 t549 t550 t553 _ ?side1 A36.out).mono ?_); (case side1 => exact HO533.out); rintro e w50 ⟨v551, rfl, ho0, hb⟩; refine ⟨_, rfl, ?_⟩; have n0_ := Aside0.mk (Kd.V_below (pv HO533.out) hb); have n1_ := Aside0.mk (Kd.V_lower (Kd.V_mono (ok' := fun k_ => k_ ≠ gb517 ∧ k_ ≠ gb535) ho0 (fun k_ hk_ => ⟨Or.elim hk_ (fun hs_ => hs_.1) (fun hn_ => (Kd.freshB (g := gb517) (o := .cells #[.int .u64 a0_0, .int .u64 a0_1, .slice A0_2 l0_2.length c0_2] 27 (0, 0)) (pk BK517.out) k_ hn_)), Or.elim hk_ (fun hs_ => hs_.2) (fun hn_ => (Kd.freshB (g := gb535) (o := .cells #[.int .u64 t529, .int .u64 t530, .slice Ao47 t531.length co47] 27 (0, 0)) (pk BK535.out) k_ hn_))⟩)) (below_size (pb HB))); have n2_ := Aside0.mk (blk_below (pk BK517.out) hb); have n3_ := Aside0.mk (blk_below (pk BK535.out) hb); have n4_ := Aside0.mk (below_step (pb HB) hb); clear HO533; clear BK517; clear BK535; clear HB; have HO533 := n0_; have HO552 := n1_; have BK517 := n2_; have BK535 := n3_; have HB := n4_; clear n0_ n1_ n2_ n3_ n4_; (try clear hb); (try clear hb2); (try clear hk); (try clear hi); (try clear ho0)) | ((with_reducible refine gate_dst (N := 11) rfl ?_); (try (refine gate_guard (by rfl) ?_; dsimp only)); refine box_event ?hg (N := 11) ?hd (cs := #[.int .u64 0, .int .u64 0, .slice none 0 0]) (t := 27) ?hr ?_; (case hd => rfl); (case hg => rfl); (case hr => first | (go_simp; done) | (go_simp; rfl)); intro gb554 hg w51 hbox hb; have n0_ := Aside0.mk (Kd.V_below (Kd.V_elderB (pv HO533.out) gb554 (Nat.le_of_eq hg.symm)) hb); have n1_ := Aside0.mk (Kd.V_below (Kd.V_elderB (pv HO552.out) gb554 (Nat.le_of_eq hg.symm)) hb); have n2_ := Aside0.mk (blk_below (pk BK517.out) hb); have n3_ := Aside0.mk (blk_below (pk BK535.out) hb); have n4_ := Aside0.mk (below_step (pb HB) hb); have n5_ := Aside0.mk (hbox); have n6_ := Aside0.mk ((pg hg HB : w.heap.size ≤ gb554)); have n7_ := Aside0.mk ((pg hg HB : w.heap.size ≤ gb554)); have n8_ := Aside0.mk ((pl hg (pk BK517.out) : gb517 ≠ gb554)); have n9_ := Aside0.mk ((pl' hg (pk BK517.out) : gb554 ≠ gb517)); have n10_ := Aside0.mk ((pl hg (pk BK535.out) : gb535 ≠ gb554)); have n11_ := Aside0.mk ((pl' hg (pk BK535.out) : gb554 ≠ gb535)); clear HO533; clear HO552; clear BK517; clear BK535; clear HB; have HO533 := n0_; have HO552 := n1_; have BK517 := n2_; have BK535 := n3_; have HB := n4_; have BK554 := n5_; have GW554 := n6_; have GE554 := n7_; have NB517_554 := n8_; have NB554_517 := n9_; have NB535_554 := n10_; have NB554_535 := n11_; clear n0_ n1_ n2_ n3_ n4_ n5_ n6_ n7_ n8_ n9_ n10_ n11_; clear hb hbox hg; have hnb52 := NB554_517.out; have hnc52 := NB517_554.out; have hnb53 := NB554_535.out; have hnc53 := NB535_554.out; have hcz54_0 := ce BK554 0; have hcz54_1 := ce BK554 1; have hcz54_2 := ce BK554 2; have hfz54_0 := fz BK554 0; have hfz54_1 := fz BK554 1; have hfz54_2 := fz BK554 2; obtain ⟨Ao55, co55, eo55⟩ := Kd.V_slice HO552.out; subst eo55))
        have n0_ : Aside0 (Kd.V k60 60 (((w51.setCell ⟨gb554, 0, none⟩ (.int .u64 t548)).setCell ⟨gb554, 1, none⟩ (.int .u64 t549)).setCell ⟨gb554, 2, none⟩ (.slice Ao55 t550.length co55)) w.heap.size (fun k_ => k_ ≠ gb517 ∧ k_ ≠ gb535 ∧ k_ ≠ gb554) (.slice Ao47 t531.length co47) t531) := ⟨by refine pv ?_; exact Kd.V_mono (Kd.V_far (p := ⟨gb554, 2, none⟩) (Kd.V_far (p := ⟨gb554, 1, none⟩) (Kd.V_far (p := ⟨gb554, 0, none⟩) (Kd.V_mono HO533.out (fun k_ hk => (⟨hk, hk.2⟩ : _ ∧ k_ ≠ gb554))) (fun _ hk => hk.2) (.int .u64 t548)) (fun _ hk => hk.2) (.int .u64 t549)) (fun _ hk => hk.2) (.slice Ao55 t550.length co55)) (fun _ hk => ⟨hk.1.1.1, ⟨hk.1.1.2, hk.1.2⟩⟩)⟩
        have n1_ : Aside0 (Kd.V k60 60 (((w51.setCell ⟨gb554, 0, none⟩ (.int .u64 t548)).setCell ⟨gb554, 1, none⟩ (.int .u64 t549)).setCell ⟨gb554, 2, none⟩ (.slice Ao55 t550.length co55)) w.heap.size (fun k_ => k_ ≠ gb517 ∧ k_ ≠ gb535 ∧ k_ ≠ gb554) (.slice Ao55 t550.length co55) t550) := ⟨by refine pv ?_; exact Kd.V_mono (Kd.V_far (p := ⟨gb554, 2, none⟩) (Kd.V_far (p := ⟨gb554, 1, none⟩) (Kd.V_far (p := ⟨gb554, 0, none⟩) (Kd.V_mono HO552.out (fun k_ hk => (⟨hk, hk.2⟩ : _ ∧ k_ ≠ gb554))) (fun _ hk => hk.2) (.int .u64 t548)) (fun _ hk => hk.2) (.int .u64 t549)) (fun _ hk => hk.2) (.slice Ao55 t550.length co55)) (fun _ hk => ⟨hk.1.1.1, ⟨hk.1.1.2, hk.1.2⟩⟩)⟩
        have n2_ : Aside0 ((((w51.setCell ⟨gb554, 0, none⟩ (.int .u64 t548)).setCell ⟨gb554, 1, none⟩ (.int .u64 t549)).setCell ⟨gb554, 2, none⟩ (.slice Ao55 t550.length co55)).heap[gb517]? = some (.cells #[.int .u64 a0_0, .int .u64 a0_1, .slice A0_2 l0_2.length c0_2] 27 (0, 0))) := ⟨by refine pk ?_; refine blk_far ?_ NB517_554.out _; refine pk ?_; refine blk_far ?_ NB517_554.out _; refine pk ?_; refine blk_far ?_ NB517_554.out _; refine pk ?_; exact BK517.out⟩
        have n3_ : Aside0 ((((w51.setCell ⟨gb554, 0, none⟩ (.int .u64 t548)).setCell ⟨gb554, 1, none⟩ (.int .u64 t549)).setCell ⟨gb554, 2, none⟩ (.slice Ao55 t550.length co55)).heap[gb535]? = some (.cells #[.int .u64 t529, .int .u64 t530, .slice Ao47 t531.length co47] 27 (0, 0))) := ⟨by refine pk ?_; refine blk_far ?_ NB535_554.out _; refine pk ?_; refine blk_far ?_ NB535_554.out _; refine pk ?_; refine blk_far ?_ NB535_554.out _; refine pk ?_; exact BK535.out⟩
        have n4_ : Aside0 ((((w51.setCell ⟨gb554, 0, none⟩ (.int .u64 t548)).setCell ⟨gb554, 1, none⟩ (.int .u64 t549)).setCell ⟨gb554, 2, none⟩ (.slice Ao55 t550.length co55)).heap[gb554]? = some (.cells #[.int .u64 t548, .int .u64 t549, .slice Ao55 t550.length co55] 27 (0, 0))) := ⟨by refine pk ?_; refine blk_put (cs := #[.int .u64 t548, .int .u64 t549, .slice none 0 0]) ?_ 2 _ rfl; refine pk ?_; refine blk_put (cs := #[.int .u64 t548, .int .u64 0, .slice none 0 0]) ?_ 1 _ rfl; refine pk ?_; refine blk_put (cs := #[.int .u64 0, .int .u64 0, .slice none 0 0]) ?_ 0 _ rfl; refine pk ?_; exact BK554.out⟩
        have n5_ : Aside0 (Below w.heap.size w (((w51.setCell ⟨gb554, 0, none⟩ (.int .u64 t548)).setCell ⟨gb554, 1, none⟩ (.int .u64 t549)).setCell ⟨gb554, 2, none⟩ (.slice Ao55 t550.length co55))) := ⟨pb HB⟩
        (try clear HO533)
        (try clear HO552)
        (try clear BK517)
        (try clear BK535)
        (try clear BK554)
        (try clear HB)
        generalize (((w51.setCell ⟨gb554, 0, none⟩ (.int .u64 t548)).setCell ⟨gb554, 1, none⟩ (.int .u64 t549)).setCell ⟨gb554, 2, none⟩ (.slice Ao55 t550.length co55)) = w56 at n0_ n1_ n2_ n3_ n4_ n5_ ⊢
        have HO533 := n0_
        have HO552 := n1_
        have BK517 := n2_
        have BK535 := n3_
        have BK554 := n4_
        have HB := n5_
        clear n0_ n1_ n2_ n3_ n4_ n5_
        have n0_ := Aside0.mk (Kd.V_drew HO533.out)
        have n1_ := Aside0.mk (Kd.V_drew HO552.out)
        have n2_ := Aside0.mk (blk_drew BK517.out)
        have n3_ := Aside0.mk (blk_drew BK535.out)
        have n4_ := Aside0.mk (blk_drew BK554.out)
        have n5_ := Aside0.mk (below_drew1 HB.out)
        clear HO533
        clear HO552
        clear BK517
        clear BK535
        clear BK554
        clear HB
        have HO533 := n0_
        have HO552 := n1_
        have BK517 := n2_
        have BK535 := n3_
        have BK554 := n4_
        have HB := n5_
        clear n0_ n1_ n2_ n3_ n4_ n5_
        refine start_ (n := 22) (S := fun w' => w'.cell? ⟨gb554, 0, none⟩ = some (.int .u64 t548) ∧ w'.cell? ⟨gb554, 1, none⟩ = some (.int .u64 t549) ∧ w'.cell? ⟨gb554, 2, none⟩ = some (.slice Ao55 t550.length co55) ∧ w'.cell? ⟨gb517, 0, none⟩ = some (.int .u64 a0_0) ∧ w'.cell? ⟨gb517, 1, none⟩ = some (.int .u64 a0_1) ∧ w'.cell? ⟨gb517, 2, none⟩ = some (.slice A0_2 l0_2.length c0_2)) (ds := []) #[false, false, false, false, false, false, false, false, false, false, false, false, false, false, false, false, false, false, false, false, false, false] (by kernel_rfl) rfl rfl ⟨ce BK554 0, ce BK554 1, ce BK554 2, ce BK517 0, ce BK517 1, ce BK517 2⟩ (fun hHeld => ?_); refine with_tabW samphirelaw12_IndexBack.tab10 samphirelaw12_IndexBack.bits10 (fun HT_ HW_ => ?_)
        generalize w56.drew = w57 at HO533 HO552 BK517 BK535 BK554 HB hHeld ⊢
        refine pu 0 ?_
        refine pu 1 ?_
        refine pu 2 ?_
        refine pu 3 ?_
        refine pu 6 ?_
        refine ta 4 hHeld ?_
        refine pu 5 ?_
        refine ta 7 hHeld ?_
        refine pu 8 ?_
        refine pu 9 ?_
        refine pu 10 ?_
        refine po 11 ?_
        refine po 12 ?_
        refine po 13 ?_
        refine po 14 ?_
        refine po 15 ?_
        refine pu 16 ?_
        refine pu 17 ?_
        refine pu 18 ?_
        refine on1 19 (fun K hK => ?_)
        refine gs Try.func10 #[] ?_
        with_reducible refine (samphirelaw12_awake.calls kj3  t555 hrT _ A39.out).mono ?_
        rintro e w58 ⟨rfl, hb⟩
        refine ⟨_, rfl, ?_⟩
        have n0_ := Aside0.mk (Kd.V_below (pv HO533.out) hb)
        have n1_ := Aside0.mk (Kd.V_below (pv HO552.out) hb)
        have n2_ := Aside0.mk (blk_below (pk BK517.out) hb)
        have n3_ := Aside0.mk (blk_below (pk BK535.out) hb)
        have n4_ := Aside0.mk (blk_below (pk BK554.out) hb)
        have n5_ := Aside0.mk (below_step (pb HB) hb)
        clear HO533
        clear HO552
        clear BK517
        clear BK535
        clear BK554
        clear HB
        have HO533 := n0_
        have HO552 := n1_
        have BK517 := n2_
        have BK535 := n3_
        have BK554 := n4_
        have HB := n5_
        clear n0_ n1_ n2_ n3_ n4_ n5_
        (try clear hb)
        (try clear hb2)
        (try clear hk)
        (try clear hi)
        refine hK.out _ _ ⟨ce BK554 0, ce BK554 1, ce BK554 2, ce BK517 0, ce BK517 1, ce BK517 2⟩ (fun hHeld => ?_)
        clear hK K
        refine nm ?_
        refine pu 20 ?_
        refine pu 21 ?_
        refine done_ (done_of HT_.out (by kernel_rfl)) ?_
        try go_wp2
        go_ret
        exact ⟨by first | rfl | (simp [errW_none, errW_some] <;> rfl) | (simp [*, errW_none, errW_some] <;> rfl), pb HB⟩
       ·rw [if_neg c38] at H
        have c38b0 : decide ((l0_2.length : Int) < (t550.length : Int)) = false := decide_eq_false c38
        have c38b1 : decide (l0_2.length < t550.length) = false := decide_eq_false (fun h => c38 (Int.ofNat_lt.mpr h))
        clear c38
        replace H := Option.bind_eq_some_iff.mp H
        obtain ⟨⟨t556, t557, t558⟩, A590, H⟩ := H
        replace H : ((samphirelaw12_Ref.f kj3 a0_0 a0_1 l0_2).bind fun bt561 => ((samphireref12_Same.f kj3 t556 t557 t558 bt561.1 bt561.2.1 bt561.2.2).bind fun t566 => (if t566 = true then ((samphirelaw12_awake.f kj3).bind fun t567 => (some t567)) else (some false)))) = some r := H
        have A59 := Aside0.mk A590
        clear A590
        replace H := Option.bind_eq_some_iff.mp H
        obtain ⟨⟨t561, t562, t563⟩, A600, H⟩ := H
        replace H : ((samphireref12_Same.f kj3 t556 t557 t558 t561 t562 t563).bind fun t566 => (if t566 = true then ((samphirelaw12_awake.f kj3).bind fun t567 => (some t567)) else (some false))) = some r := H
        have A60 := Aside0.mk A600
        clear A600
        replace H := Option.bind_eq_some_iff.mp H
        obtain ⟨t566, A610, H⟩ := H
        replace H : (if t566 = true then ((samphirelaw12_awake.f kj3).bind fun t567 => (some t567)) else (some false)) = some r := H
        have A61 := Aside0.mk A610
        clear A610
        by_cases c62 : t566 = true
        ·subst c62
         have H1 : ((samphirelaw12_awake.f kj3).bind fun t567 => (some t567)) = some r := by rw [if_pos rfl] at H; exact H
         clear H
         have H := H1
         clear H1
         replace H := Option.bind_eq_some_iff.mp H
         obtain ⟨t567, A630, H⟩ := H
         replace H : (some t567) = some r := H
         have A63 := Aside0.mk A630
         clear A630
         obtain rfl := Option.some.inj H
         have hcz64_0 := ce BK517 0
         have hcz64_1 := ce BK517 1
         have hcz64_2 := ce BK517 2
         have hfz64_0 := fz BK517 0
         have hfz64_1 := fz BK517 1
         have hfz64_2 := fz BK517 2
         try go_wp2_with (first | ((with_reducible refine gate_callee (f := 12) rfl ?_); refine gl (some 31) Try.func12 #[.agg #[.int .u64 a0_0, .int .u64 a0_1, .slice A0_2 l0_2.length c0_2], .string a1] ?_; (with_reducible refine (index_Get.calls kj3 a0_0 a0_1 _ _ l0_2 a1 t526 false _ ?side1 ?side2 A28.out).mono ?_); (case side1 => repeat (first | exact (Kd.C_below HR0_2.out HB.out) | (with_reducible refine Kd.C_alloc ?_ _) | (with_reducible refine Kd.C_drewN ?_ _) | (with_reducible refine Kd.C_drew ?_))); (case side2 => exact HC0_2.out); rintro e w65 ⟨rfl, hb⟩; refine ⟨_, rfl, ?_⟩; have n0_ := Aside0.mk (blk_below (pk BK517.out) hb); have n1_ := Aside0.mk (below_step (pb HB) hb); clear BK517; clear HB; have BK517 := n0_; have HB := n1_; clear n0_ n1_; (try clear hb); (try clear hb2); (try clear hk); (try clear hi); have hcz66_0 := ce BK517 0; have hcz66_1 := ce BK517 1; have hcz66_2 := ce BK517 2; have hfz66_0 := fz BK517 0; have hfz66_1 := fz BK517 1; have hfz66_2 := fz BK517 2) | ((with_reducible refine gate_callee (f := 13) rfl ?_); refine gl (some 40) Try.func13 #[.agg #[.int .u64 a0_0, .int .u64 a0_1, .slice A0_2 l0_2.length c0_2], .string a1, .int .i64 a2] ?_; (with_reducible refine (index_Put.calls kj3 a0_0 a0_1 (fun k_ => k_ < w.heap.size) _ _ l0_2 a1 a2 t529 t530 t531 t534 _ ?side1 A34.out).mono ?_); (case side1 => exact Kd.V_mk HC0_2.out (Kd.F_below (Kd.C_F k60_heap HR0_2.out) (pb HB))); rintro e w67 ⟨v532, rfl, ho0, hb⟩; refine ⟨_, rfl, ?_⟩; have n0_ := Aside0.mk (Kd.V_lower (Kd.V_mono (ok' := fun k_ => k_ ≠ gb517) ho0 (fun k_ hk_ => Or.elim hk_ (fun hs_ => fun e_ => Nat.not_le.2 hs_ (by rw [e_]; exact GW517.out)) (fun hn_ => (Kd.freshB (g := gb517) (o := .cells #[.int .u64 a0_0, .int .u64 a0_1, .slice A0_2 l0_2.length c0_2] 27 (0, 0)) (pk BK517.out) k_ hn_)))) (below_size (pb HB))); have n1_ := Aside0.mk (blk_below (pk BK517.out) hb); have n2_ := Aside0.mk (below_step (pb HB) hb); clear BK517; clear HB; have HO533 := n0_; have BK517 := n1_; have HB := n2_; clear n0_ n1_ n2_; (try clear hb); (try clear hb2); (try clear hk); (try clear hi); (try clear ho0)) | ((with_reducible refine gate_dst (N := 9) rfl ?_); (try (refine gate_guard (by rfl) ?_; dsimp only)); refine box_event ?hg (N := 9) ?hd (cs := #[.int .u64 0, .int .u64 0, .slice none 0 0]) (t := 27) ?hr ?_; (case hd => rfl); (case hg => rfl); (case hr => first | (go_simp; done) | (go_simp; rfl)); intro gb535 hg w68 hbox hb; have n0_ := Aside0.mk (Kd.V_below (Kd.V_elderB (pv HO533.out) gb535 (Nat.le_of_eq hg.symm)) hb); have n1_ := Aside0.mk (blk_below (pk BK517.out) hb); have n2_ := Aside0.mk (below_step (pb HB) hb); have n3_ := Aside0.mk (hbox); have n4_ := Aside0.mk ((pg hg HB : w.heap.size ≤ gb535)); have n5_ := Aside0.mk ((pg hg HB : w.heap.size ≤ gb535)); have n6_ := Aside0.mk ((pl hg (pk BK517.out) : gb517 ≠ gb535)); have n7_ := Aside0.mk ((pl' hg (pk BK517.out) : gb535 ≠ gb517)); clear HO533; clear BK517; clear HB; have HO533 := n0_; have BK517 := n1_; have HB := n2_; have BK535 := n3_; have GW535 := n4_; have GE535 := n5_; have NB517_535 := n6_; have NB535_517 := n7_; clear n0_ n1_ n2_ n3_ n4_ n5_ n6_ n7_; clear hb hbox hg; have hnb69 := NB535_517.out; have hnc69 := NB517_535.out; have hcz70_0 := ce BK535 0; have hcz70_1 := ce BK535 1; have hcz70_2 := ce BK535 2; have hfz70_0 := fz BK535 0; have hfz70_1 := fz BK535 1; have hfz70_2 := fz BK535 2; obtain ⟨Ao71, co71, eo71⟩ := Kd.V_slice HO533.out; subst eo71) | ((with_reducible refine gate_store (t := 27) (p := 9) rfl ?_); refine store_event (t := 27) (p := 9) (v := ?vo_w72) (w1 := (((w68.setCell ⟨gb535, 0, none⟩ (.int .u64 t529)).setCell ⟨gb535, 1, none⟩ (.int .u64 t530)).setCell ⟨gb535, 2, none⟩ (.slice Ao71 t531.length co71))) ?hg ?ho ?hn ?hr ?_; (case ho => rfl); (case hg => rfl); (case hn => rfl); (case hr => first | (go_simp; done) | (go_simp; rfl)); intro w72 hw; have n0_ : Aside0 (Kd.V k60 60 w72 w.heap.size (fun k_ => k_ ≠ gb517 ∧ k_ ≠ gb535) (.slice Ao71 t531.length co71) t531) := ⟨(by rw [hw]; exact (pv (Kd.V_mono (Kd.V_far (p := ⟨gb535, 2, none⟩) (Kd.V_far (p := ⟨gb535, 1, none⟩) (Kd.V_far (p := ⟨gb535, 0, none⟩) (Kd.V_mono HO533.out (fun k_ hk => (⟨hk, hk.2⟩ : _ ∧ k_ ≠ gb535))) (fun _ hk => hk.2) (.int .u64 t529)) (fun _ hk => hk.2) (.int .u64 t530)) (fun _ hk => hk.2) (.slice Ao71 t531.length co71)) (fun _ hk => ⟨hk.1.1, hk.1.2⟩))))⟩; have n1_ : Aside0 (w72.heap[gb517]? = some (.cells #[.int .u64 a0_0, .int .u64 a0_1, .slice A0_2 l0_2.length c0_2] 27 (0, 0))) := ⟨(by rw [hw]; exact (by refine pk ?_; refine blk_far ?_ NB517_535.out _; refine pk ?_; refine blk_far ?_ NB517_535.out _; refine pk ?_; refine blk_far ?_ NB517_535.out _; refine pk ?_; exact BK517.out))⟩; have n2_ : Aside0 (w72.heap[gb535]? = some (.cells #[.int .u64 t529, .int .u64 t530, .slice Ao71 t531.length co71] 27 (0, 0))) := ⟨(by rw [hw]; exact (by refine pk ?_; refine blk_put (cs := #[.int .u64 t529, .int .u64 t530, .slice none 0 0]) ?_ 2 _ rfl; refine pk ?_; refine blk_put (cs := #[.int .u64 t529, .int .u64 0, .slice none 0 0]) ?_ 1 _ rfl; refine pk ?_; refine blk_put (cs := #[.int .u64 0, .int .u64 0, .slice none 0 0]) ?_ 0 _ rfl; refine pk ?_; exact BK535.out))⟩; have n3_ : Aside0 (Below w.heap.size w w72) := ⟨(by rw [hw]; exact (pb HB))⟩; clear hw; clear HO533; clear BK517; clear BK535; clear HB; have HO533 := n0_; have BK517 := n1_; have BK535 := n2_; have HB := n3_; clear n0_ n1_ n2_ n3_; have hcz73_0 := ce BK535 0; have hcz73_1 := ce BK535 1; have hcz73_2 := ce BK535 2; have hfz73_0 := fz BK535 0; have hfz73_1 := fz BK535 1; have hfz73_2 := fz BK535 2) | ((with_reducible refine gate_callee (f := 14) rfl ?_); refine gl (some 56) Try.func14 #[.agg #[.int .u64 t529, .int .u64 t530, .slice Ao71 t531.length co71], .string a1] ?_; (with_reducible refine (index_Delete.calls kj3 t529 t530 (fun k_ => (k_ ≠ gb517 ∧ k_ ≠ gb535)) _ _ t531 a1 t548 t549 t550 t553 _ ?side1 A36.out).mono ?_); (case side1 => exact HO533.out); rintro e w74 ⟨v551, rfl, ho0, hb⟩; refine ⟨_, rfl, ?_⟩; have n0_ := Aside0.mk (Kd.V_below (pv HO533.out) hb); have n1_ := Aside0.mk (Kd.V_lower (Kd.V_mono (ok' := fun k_ => k_ ≠ gb517 ∧ k_ ≠ gb535) ho0 (fun k_ hk_ => ⟨Or.elim hk_ (fun hs_ => hs_.1) (fun hn_ => (Kd.freshB (g := gb517) (o := .cells #[.int .u64 a0_0, .int .u64 a0_1, .slice A0_2 l0_2.length c0_2] 27 (0, 0)) (pk BK517.out) k_ hn_)), Or.elim hk_ (fun hs_ => hs_.2) (fun hn_ => (Kd.freshB (g := gb535) (o := .cells #[.int .u64 t529, .int .u64 t530, .slice Ao71 t531.length co71] 27 (0, 0)) (pk BK535.out) k_ hn_))⟩)) (below_size (pb HB))); have n2_ := Aside0.mk (blk_below (pk BK517.out) hb); have n3_ := Aside0.mk (blk_below (pk BK535.out) hb); have n4_ := Aside0.mk (below_step (pb HB) hb); clear HO533; clear BK517; clear BK535; clear HB; have HO533 := n0_; have HO552 := n1_; have BK517 := n2_; have BK535 := n3_; have HB := n4_; clear n0_ n1_ n2_ n3_ n4_; (try clear hb); (try clear hb2); (try clear hk); (try clear hi); (try clear ho0)) | ((with_reducible refine gate_dst (N := 11) rfl ?_); (try (refine gate_guard (by rfl) ?_; dsimp only)); refine box_event ?hg (N := 11) ?hd (cs := #[.int .u64 0, .int .u64 0, .slice none 0 0]) (t := 27) ?hr ?_; (case hd => rfl); (case hg => rfl); (case hr => first | (go_simp; done) | (go_simp; rfl)); intro gb554 hg w75 hbox hb; have n0_ := Aside0.mk (Kd.V_below (Kd.V_elderB (pv HO533.out) gb554 (Nat.le_of_eq hg.symm)) hb); have n1_ := Aside0.mk (Kd.V_below (Kd.V_elderB (pv HO552.out) gb554 (Nat.le_of_eq hg.symm)) hb); have n2_ := Aside0.mk (blk_below (pk BK517.out) hb); have n3_ := Aside0.mk (blk_below (pk BK535.out) hb); have n4_ := Aside0.mk (below_step (pb HB) hb); have n5_ := Aside0.mk (hbox); have n6_ := Aside0.mk ((pg hg HB : w.heap.size ≤ gb554)); have n7_ := Aside0.mk ((pg hg HB : w.heap.size ≤ gb554)); have n8_ := Aside0.mk ((pl hg (pk BK517.out) : gb517 ≠ gb554)); have n9_ := Aside0.mk ((pl' hg (pk BK517.out) : gb554 ≠ gb517)); have n10_ := Aside0.mk ((pl hg (pk BK535.out) : gb535 ≠ gb554)); have n11_ := Aside0.mk ((pl' hg (pk BK535.out) : gb554 ≠ gb535)); clear HO533; clear HO552; clear BK517; clear BK535; clear HB; have HO533 := n0_; have HO552 := n1_; have BK517 := n2_; have BK535 := n3_; have HB := n4_; have BK554 := n5_; have GW554 := n6_; have GE554 := n7_; have NB517_554 := n8_; have NB554_517 := n9_; have NB535_554 := n10_; have NB554_535 := n11_; clear n0_ n1_ n2_ n3_ n4_ n5_ n6_ n7_ n8_ n9_ n10_ n11_; clear hb hbox hg; have hnb76 := NB554_517.out; have hnc76 := NB517_554.out; have hnb77 := NB554_535.out; have hnc77 := NB535_554.out; have hcz78_0 := ce BK554 0; have hcz78_1 := ce BK554 1; have hcz78_2 := ce BK554 2; have hfz78_0 := fz BK554 0; have hfz78_1 := fz BK554 1; have hfz78_2 := fz BK554 2; obtain ⟨Ao79, co79, eo79⟩ := Kd.V_slice HO552.out; subst eo79))
         have n0_ : Aside0 (Kd.V k60 60 (((w75.setCell ⟨gb554, 0, none⟩ (.int .u64 t548)).setCell ⟨gb554, 1, none⟩ (.int .u64 t549)).setCell ⟨gb554, 2, none⟩ (.slice Ao79 t550.length co79)) w.heap.size (fun k_ => k_ ≠ gb517 ∧ k_ ≠ gb535 ∧ k_ ≠ gb554) (.slice Ao71 t531.length co71) t531) := ⟨by refine pv ?_; exact Kd.V_mono (Kd.V_far (p := ⟨gb554, 2, none⟩) (Kd.V_far (p := ⟨gb554, 1, none⟩) (Kd.V_far (p := ⟨gb554, 0, none⟩) (Kd.V_mono HO533.out (fun k_ hk => (⟨hk, hk.2⟩ : _ ∧ k_ ≠ gb554))) (fun _ hk => hk.2) (.int .u64 t548)) (fun _ hk => hk.2) (.int .u64 t549)) (fun _ hk => hk.2) (.slice Ao79 t550.length co79)) (fun _ hk => ⟨hk.1.1.1, ⟨hk.1.1.2, hk.1.2⟩⟩)⟩
         have n1_ : Aside0 (Kd.V k60 60 (((w75.setCell ⟨gb554, 0, none⟩ (.int .u64 t548)).setCell ⟨gb554, 1, none⟩ (.int .u64 t549)).setCell ⟨gb554, 2, none⟩ (.slice Ao79 t550.length co79)) w.heap.size (fun k_ => k_ ≠ gb517 ∧ k_ ≠ gb535 ∧ k_ ≠ gb554) (.slice Ao79 t550.length co79) t550) := ⟨by refine pv ?_; exact Kd.V_mono (Kd.V_far (p := ⟨gb554, 2, none⟩) (Kd.V_far (p := ⟨gb554, 1, none⟩) (Kd.V_far (p := ⟨gb554, 0, none⟩) (Kd.V_mono HO552.out (fun k_ hk => (⟨hk, hk.2⟩ : _ ∧ k_ ≠ gb554))) (fun _ hk => hk.2) (.int .u64 t548)) (fun _ hk => hk.2) (.int .u64 t549)) (fun _ hk => hk.2) (.slice Ao79 t550.length co79)) (fun _ hk => ⟨hk.1.1.1, ⟨hk.1.1.2, hk.1.2⟩⟩)⟩
         have n2_ : Aside0 ((((w75.setCell ⟨gb554, 0, none⟩ (.int .u64 t548)).setCell ⟨gb554, 1, none⟩ (.int .u64 t549)).setCell ⟨gb554, 2, none⟩ (.slice Ao79 t550.length co79)).heap[gb517]? = some (.cells #[.int .u64 a0_0, .int .u64 a0_1, .slice A0_2 l0_2.length c0_2] 27 (0, 0))) := ⟨by refine pk ?_; refine blk_far ?_ NB517_554.out _; refine pk ?_; refine blk_far ?_ NB517_554.out _; refine pk ?_; refine blk_far ?_ NB517_554.out _; refine pk ?_; exact BK517.out⟩
         have n3_ : Aside0 ((((w75.setCell ⟨gb554, 0, none⟩ (.int .u64 t548)).setCell ⟨gb554, 1, none⟩ (.int .u64 t549)).setCell ⟨gb554, 2, none⟩ (.slice Ao79 t550.length co79)).heap[gb535]? = some (.cells #[.int .u64 t529, .int .u64 t530, .slice Ao71 t531.length co71] 27 (0, 0))) := ⟨by refine pk ?_; refine blk_far ?_ NB535_554.out _; refine pk ?_; refine blk_far ?_ NB535_554.out _; refine pk ?_; refine blk_far ?_ NB535_554.out _; refine pk ?_; exact BK535.out⟩
         have n4_ : Aside0 ((((w75.setCell ⟨gb554, 0, none⟩ (.int .u64 t548)).setCell ⟨gb554, 1, none⟩ (.int .u64 t549)).setCell ⟨gb554, 2, none⟩ (.slice Ao79 t550.length co79)).heap[gb554]? = some (.cells #[.int .u64 t548, .int .u64 t549, .slice Ao79 t550.length co79] 27 (0, 0))) := ⟨by refine pk ?_; refine blk_put (cs := #[.int .u64 t548, .int .u64 t549, .slice none 0 0]) ?_ 2 _ rfl; refine pk ?_; refine blk_put (cs := #[.int .u64 t548, .int .u64 0, .slice none 0 0]) ?_ 1 _ rfl; refine pk ?_; refine blk_put (cs := #[.int .u64 0, .int .u64 0, .slice none 0 0]) ?_ 0 _ rfl; refine pk ?_; exact BK554.out⟩
         have n5_ : Aside0 (Below w.heap.size w (((w75.setCell ⟨gb554, 0, none⟩ (.int .u64 t548)).setCell ⟨gb554, 1, none⟩ (.int .u64 t549)).setCell ⟨gb554, 2, none⟩ (.slice Ao79 t550.length co79))) := ⟨pb HB⟩
         (try clear HO533)
         (try clear HO552)
         (try clear BK517)
         (try clear BK535)
         (try clear BK554)
         (try clear HB)
         generalize (((w75.setCell ⟨gb554, 0, none⟩ (.int .u64 t548)).setCell ⟨gb554, 1, none⟩ (.int .u64 t549)).setCell ⟨gb554, 2, none⟩ (.slice Ao79 t550.length co79)) = w80 at n0_ n1_ n2_ n3_ n4_ n5_ ⊢
         have HO533 := n0_
         have HO552 := n1_
         have BK517 := n2_
         have BK535 := n3_
         have BK554 := n4_
         have HB := n5_
         clear n0_ n1_ n2_ n3_ n4_ n5_
         have n0_ := Aside0.mk (Kd.V_drew HO533.out)
         have n1_ := Aside0.mk (Kd.V_drew HO552.out)
         have n2_ := Aside0.mk (blk_drew BK517.out)
         have n3_ := Aside0.mk (blk_drew BK535.out)
         have n4_ := Aside0.mk (blk_drew BK554.out)
         have n5_ := Aside0.mk (below_drew1 HB.out)
         clear HO533
         clear HO552
         clear BK517
         clear BK535
         clear BK554
         clear HB
         have HO533 := n0_
         have HO552 := n1_
         have BK517 := n2_
         have BK535 := n3_
         have BK554 := n4_
         have HB := n5_
         clear n0_ n1_ n2_ n3_ n4_ n5_
         refine start_ (n := 22) (S := fun w' => w'.cell? ⟨gb554, 0, none⟩ = some (.int .u64 t548) ∧ w'.cell? ⟨gb554, 1, none⟩ = some (.int .u64 t549) ∧ w'.cell? ⟨gb554, 2, none⟩ = some (.slice Ao79 t550.length co79) ∧ w'.cell? ⟨gb517, 0, none⟩ = some (.int .u64 a0_0) ∧ w'.cell? ⟨gb517, 1, none⟩ = some (.int .u64 a0_1) ∧ w'.cell? ⟨gb517, 2, none⟩ = some (.slice A0_2 l0_2.length c0_2)) (ds := []) #[false, false, false, false, false, false, false, false, false, false, false, false, false, false, false, false, false, false, false, false, false, false] (by kernel_rfl) rfl rfl ⟨ce BK554 0, ce BK554 1, ce BK554 2, ce BK517 0, ce BK517 1, ce BK517 2⟩ (fun hHeld => ?_); refine with_tabW samphirelaw12_IndexBack.tab10 samphirelaw12_IndexBack.bits10 (fun HT_ HW_ => ?_)
         generalize w80.drew = w81 at HO533 HO552 BK517 BK535 BK554 HB hHeld ⊢
         refine pu 0 ?_
         refine pu 1 ?_
         refine pu 2 ?_
         refine pu 3 ?_
         refine pu 6 ?_
         refine ta 4 hHeld ?_
         refine pu 5 ?_
         refine ta 7 hHeld ?_
         refine pu 8 ?_
         refine pu 9 ?_
         refine pu 10 ?_
         refine ta 11 hHeld ?_
         refine ta 13 hHeld ?_
         refine on1 12 (fun K hK => ?_)
         refine gs Try.func8 #[.agg #[.int .u64 t548, .int .u64 t549, .slice Ao79 t550.length co79]] ?_
         with_reducible refine (samphirelaw12_Ref.calls kj3 t548 t549 _ _ t550 t556 t557 t558 _ ?side1 ?side2 A59.out).mono ?_
         (case side1 => repeat (first | exact (Kd.V_reads' HO552.out).2.2 | (with_reducible refine Kd.C_alloc ?_ _) | (with_reducible refine Kd.C_drewN ?_ _) | (with_reducible refine Kd.C_drew ?_)))
         (case side2 => exact (Kd.V_reads' HO552.out).2.1)
         rintro e w82 ⟨v559, rfl, ho0, hb⟩
         refine ⟨_, rfl, ?_⟩
         have n0_ := Aside0.mk (Kd.V_elder' (pv HO533.out) (Kd.R_base ho0) hb)
         have n1_ := Aside0.mk (Kd.V_elder' (pv HO552.out) (Kd.R_base ho0) hb)
         have n2_ := Aside0.mk (Kd.R_lower ho0 (below_size (pb HB)))
         have n3_ := Aside0.mk (blk_below (pk BK517.out) hb)
         have n4_ := Aside0.mk (blk_below (pk BK535.out) hb)
         have n5_ := Aside0.mk (blk_below (pk BK554.out) hb)
         have n6_ := Aside0.mk (below_step (pb HB) hb)
         clear HO533
         clear HO552
         clear BK517
         clear BK535
         clear BK554
         clear HB
         have HO533 := n0_
         have HO552 := n1_
         have HO560 := n2_
         have BK517 := n3_
         have BK535 := n4_
         have BK554 := n5_
         have HB := n6_
         clear n0_ n1_ n2_ n3_ n4_ n5_ n6_
         (try clear hb)
         (try clear hb2)
         (try clear hk)
         (try clear hi)
         (try clear ho0)
         refine hK.out _ _ ⟨ce BK554 0, ce BK554 1, ce BK554 2, ce BK517 0, ce BK517 1, ce BK517 2⟩ (fun hHeld => ?_)
         clear hK K
         refine nm ?_
         refine on1 14 (fun K hK => ?_)
         refine gs Try.func8 #[.agg #[.int .u64 a0_0, .int .u64 a0_1, .slice A0_2 l0_2.length c0_2]] ?_
         with_reducible refine (samphirelaw12_Ref.calls kj3 a0_0 a0_1 _ _ l0_2 t561 t562 t563 _ ?side1 ?side2 A60.out).mono ?_
         (case side1 => repeat (first | exact (Kd.C_below HR0_2.out HB.out) | (with_reducible refine Kd.C_alloc ?_ _) | (with_reducible refine Kd.C_drewN ?_ _) | (with_reducible refine Kd.C_drew ?_)))
         (case side2 => exact HC0_2.out)
         rintro e w83 ⟨v564, rfl, ho0, hb⟩
         refine ⟨_, rfl, ?_⟩
         have n0_ := Aside0.mk (Kd.V_elder' (pv HO533.out) (Kd.R_base ho0) hb)
         have n1_ := Aside0.mk (Kd.V_elder' (pv HO552.out) (Kd.R_base ho0) hb)
         have n2_ := Aside0.mk (Kd.R_elder' (pr HO560.out) (Kd.R_base ho0) hb)
         have n3_ := Aside0.mk (Kd.R_lower (Kd.R_new' ho0 (Kd.R_lt (pr HO560.out))) (below_size (pb HB)))
         have n4_ := Aside0.mk (blk_below (pk BK517.out) hb)
         have n5_ := Aside0.mk (blk_below (pk BK535.out) hb)
         have n6_ := Aside0.mk (blk_below (pk BK554.out) hb)
         have n7_ := Aside0.mk (below_step (pb HB) hb)
         clear HO533
         clear HO552
         clear HO560
         clear BK517
         clear BK535
         clear BK554
         clear HB
         have HO533 := n0_
         have HO552 := n1_
         have HO560 := n2_
         have HO565 := n3_
         have BK517 := n4_
         have BK535 := n5_
         have BK554 := n6_
         have HB := n7_
         clear n0_ n1_ n2_ n3_ n4_ n5_ n6_ n7_
         (try clear hb)
         (try clear hb2)
         (try clear hk)
         (try clear hi)
         (try clear ho0)
         obtain ⟨Ao84, co84, eo84⟩ := Kd.R_slice HO560.out
         (first | subst eo84 | (injection eo84 with f1_ f2_ f3_; have f4_ := f1_.symm; have f5_ := f3_.symm; clear f1_ f2_ f3_; subst f4_; subst f5_))
         obtain ⟨Ao85, co85, eo85⟩ := Kd.R_slice HO565.out
         (first | subst eo85 | (injection eo85 with f1_ f2_ f3_; have f4_ := f1_.symm; have f5_ := f3_.symm; clear f1_ f2_ f3_; subst f4_; subst f5_))
         refine hK.out _ _ ⟨ce BK554 0, ce BK554 1, ce BK554 2, ce BK517 0, ce BK517 1, ce BK517 2⟩ (fun hHeld => ?_)
         clear hK K
         refine nm ?_
         refine on1 15 (fun K hK => ?_)
         refine gs Try.func17 #[.agg #[.int .u64 t556, .int .u64 t557, .slice Ao84 t558.length co84], .agg #[.int .u64 t561, .int .u64 t562, .slice Ao85 t563.length co85]] ?_
         with_reducible refine (samphireref12_Same.calls kj3 t556 t557 _ _ t558 t561 t562 _ _ t563 true _ ?side1 ?side2 ?side3 ?side4 A61.out).mono ?_
         (case side1 => repeat (first | exact (Kd.R_reads' HO560.out).2.2 | (with_reducible refine Kd.C_alloc ?_ _) | (with_reducible refine Kd.C_drewN ?_ _) | (with_reducible refine Kd.C_drew ?_)))
         (case side2 => exact (Kd.R_reads' HO560.out).2.1)
         (case side3 => repeat (first | exact (Kd.R_reads' HO565.out).2.2 | (with_reducible refine Kd.C_alloc ?_ _) | (with_reducible refine Kd.C_drewN ?_ _) | (with_reducible refine Kd.C_drew ?_)))
         (case side4 => exact (Kd.R_reads' HO565.out).2.1)
         rintro e w86 ⟨rfl, hb⟩
         refine ⟨_, rfl, ?_⟩
         have n0_ := Aside0.mk (Kd.V_below (pv HO533.out) hb)
         have n1_ := Aside0.mk (Kd.V_below (pv HO552.out) hb)
         have n2_ := Aside0.mk (Kd.R_below (pr HO560.out) hb)
         have n3_ := Aside0.mk (Kd.R_below (pr HO565.out) hb)
         have n4_ := Aside0.mk (blk_below (pk BK517.out) hb)
         have n5_ := Aside0.mk (blk_below (pk BK535.out) hb)
         have n6_ := Aside0.mk (blk_below (pk BK554.out) hb)
         have n7_ := Aside0.mk (below_step (pb HB) hb)
         clear HO533
         clear HO552
         clear HO560
         clear HO565
         clear BK517
         clear BK535
         clear BK554
         clear HB
         have HO533 := n0_
         have HO552 := n1_
         have HO560 := n2_
         have HO565 := n3_
         have BK517 := n4_
         have BK535 := n5_
         have BK554 := n6_
         have HB := n7_
         clear n0_ n1_ n2_ n3_ n4_ n5_ n6_ n7_
         (try clear hb)
         (try clear hb2)
         (try clear hk)
         (try clear hi)
         refine hK.out _ _ ⟨ce BK554 0, ce BK554 1, ce BK554 2, ce BK517 0, ce BK517 1, ce BK517 2⟩ (fun hHeld => ?_)
         clear hK K
         refine nm ?_
         refine pu 16 ?_
         refine pu 17 ?_
         refine pu 18 ?_
         refine on1 19 (fun K hK => ?_)
         refine gs Try.func10 #[] ?_
         with_reducible refine (samphirelaw12_awake.calls kj3  t567 hrT _ A63.out).mono ?_
         rintro e w87 ⟨rfl, hb⟩
         refine ⟨_, rfl, ?_⟩
         have n0_ := Aside0.mk (Kd.V_below (pv HO533.out) hb)
         have n1_ := Aside0.mk (Kd.V_below (pv HO552.out) hb)
         have n2_ := Aside0.mk (Kd.R_below (pr HO560.out) hb)
         have n3_ := Aside0.mk (Kd.R_below (pr HO565.out) hb)
         have n4_ := Aside0.mk (blk_below (pk BK517.out) hb)
         have n5_ := Aside0.mk (blk_below (pk BK535.out) hb)
         have n6_ := Aside0.mk (blk_below (pk BK554.out) hb)
         have n7_ := Aside0.mk (below_step (pb HB) hb)
         clear HO533
         clear HO552
         clear HO560
         clear HO565
         clear BK517
         clear BK535
         clear BK554
         clear HB
         have HO533 := n0_
         have HO552 := n1_
         have HO560 := n2_
         have HO565 := n3_
         have BK517 := n4_
         have BK535 := n5_
         have BK554 := n6_
         have HB := n7_
         clear n0_ n1_ n2_ n3_ n4_ n5_ n6_ n7_
         (try clear hb)
         (try clear hb2)
         (try clear hk)
         (try clear hi)
         refine hK.out _ _ ⟨ce BK554 0, ce BK554 1, ce BK554 2, ce BK517 0, ce BK517 1, ce BK517 2⟩ (fun hHeld => ?_)
         clear hK K
         refine nm ?_
         refine pu 20 ?_
         refine pu 21 ?_
         refine done_ (done_of HT_.out (by kernel_rfl)) ?_
         try go_wp2
         go_ret
         exact ⟨by first | rfl | (simp [errW_none, errW_some] <;> rfl) | (simp [*, errW_none, errW_some] <;> rfl), pb HB⟩
        ·replace c62 := Bool.eq_false_iff.mpr c62
         subst c62
         have H1 : (some false) = some r := by rw [if_neg (show ¬ (false = true) by decide)] at H; exact H
         exact Bool.noConfusion ((Option.some.inj H1).trans hrT.out)
      ·rw [if_neg c37] at H
       exact Bool.noConfusion ((Option.some.inj H).trans hrT.out)
     ·rw [if_neg c35] at H
      have c35b0 : (t534 == 0) = false := beq_eq_false_iff_ne.mpr c35
      have c35b1 : (t534 != 0) = true := bne_iff_ne.mpr c35
      replace H := Option.bind_eq_some_iff.mp H
      obtain ⟨⟨t536, t537, t538⟩, A1290, H⟩ := H
      replace H : ((samphirelaw12_Ref.f kj3 a0_0 a0_1 l0_2).bind fun bt541 => ((samphireref12_Same.f kj3 t536 t537 t538 bt541.1 bt541.2.1 bt541.2.2).bind fun t546 => (if t546 = true then ((samphirelaw12_awake.f kj3).bind fun t547 => (some t547)) else (some false)))) = some r := H
      have A129 := Aside0.mk A1290
      clear A1290
      replace H := Option.bind_eq_some_iff.mp H
      obtain ⟨⟨t541, t542, t543⟩, A1300, H⟩ := H
      replace H : ((samphireref12_Same.f kj3 t536 t537 t538 t541 t542 t543).bind fun t546 => (if t546 = true then ((samphirelaw12_awake.f kj3).bind fun t547 => (some t547)) else (some false))) = some r := H
      have A130 := Aside0.mk A1300
      clear A1300
      replace H := Option.bind_eq_some_iff.mp H
      obtain ⟨t546, A1310, H⟩ := H
      replace H : (if t546 = true then ((samphirelaw12_awake.f kj3).bind fun t547 => (some t547)) else (some false)) = some r := H
      have A131 := Aside0.mk A1310
      clear A1310
      by_cases c132 : t546 = true
      ·subst c132
       have H1 : ((samphirelaw12_awake.f kj3).bind fun t547 => (some t547)) = some r := by rw [if_pos rfl] at H; exact H
       clear H
       have H := H1
       clear H1
       replace H := Option.bind_eq_some_iff.mp H
       obtain ⟨t547, A1330, H⟩ := H
       replace H : (some t547) = some r := H
       have A133 := Aside0.mk A1330
       clear A1330
       obtain rfl := Option.some.inj H
       have hcz134_0 := ce BK517 0
       have hcz134_1 := ce BK517 1
       have hcz134_2 := ce BK517 2
       have hfz134_0 := fz BK517 0
       have hfz134_1 := fz BK517 1
       have hfz134_2 := fz BK517 2
       try go_wp2_with (first | ((with_reducible refine gate_callee (f := 12) rfl ?_); refine gl (some 31) Try.func12 #[.agg #[.int .u64 a0_0, .int .u64 a0_1, .slice A0_2 l0_2.length c0_2], .string a1] ?_; (with_reducible refine (index_Get.calls kj3 a0_0 a0_1 _ _ l0_2 a1 t526 false _ ?side1 ?side2 A28.out).mono ?_); (case side1 => repeat (first | exact (Kd.C_below HR0_2.out HB.out) | (with_reducible refine Kd.C_alloc ?_ _) | (with_reducible refine Kd.C_drewN ?_ _) | (with_reducible refine Kd.C_drew ?_))); (case side2 => exact HC0_2.out); rintro e w135 ⟨rfl, hb⟩; refine ⟨_, rfl, ?_⟩; have n0_ := Aside0.mk (blk_below (pk BK517.out) hb); have n1_ := Aside0.mk (below_step (pb HB) hb); clear BK517; clear HB; have BK517 := n0_; have HB := n1_; clear n0_ n1_; (try clear hb); (try clear hb2); (try clear hk); (try clear hi); have hcz136_0 := ce BK517 0; have hcz136_1 := ce BK517 1; have hcz136_2 := ce BK517 2; have hfz136_0 := fz BK517 0; have hfz136_1 := fz BK517 1; have hfz136_2 := fz BK517 2) | ((with_reducible refine gate_callee (f := 13) rfl ?_); refine gl (some 40) Try.func13 #[.agg #[.int .u64 a0_0, .int .u64 a0_1, .slice A0_2 l0_2.length c0_2], .string a1, .int .i64 a2] ?_; (with_reducible refine (index_Put.calls kj3 a0_0 a0_1 (fun k_ => k_ < w.heap.size) _ _ l0_2 a1 a2 t529 t530 t531 t534 _ ?side1 A34.out).mono ?_); (case side1 => exact Kd.V_mk HC0_2.out (Kd.F_below (Kd.C_F k60_heap HR0_2.out) (pb HB))); rintro e w137 ⟨v532, rfl, ho0, hb⟩; refine ⟨_, rfl, ?_⟩; have n0_ := Aside0.mk (Kd.V_lower (Kd.V_mono (ok' := fun k_ => k_ ≠ gb517) ho0 (fun k_ hk_ => Or.elim hk_ (fun hs_ => fun e_ => Nat.not_le.2 hs_ (by rw [e_]; exact GW517.out)) (fun hn_ => (Kd.freshB (g := gb517) (o := .cells #[.int .u64 a0_0, .int .u64 a0_1, .slice A0_2 l0_2.length c0_2] 27 (0, 0)) (pk BK517.out) k_ hn_)))) (below_size (pb HB))); have n1_ := Aside0.mk (blk_below (pk BK517.out) hb); have n2_ := Aside0.mk (below_step (pb HB) hb); clear BK517; clear HB; have HO533 := n0_; have BK517 := n1_; have HB := n2_; clear n0_ n1_ n2_; (try clear hb); (try clear hb2); (try clear hk); (try clear hi); (try clear ho0)) | ((with_reducible refine gate_dst (N := 9) rfl ?_); (try (refine gate_guard (by rfl) ?_; dsimp only)); refine box_event ?hg (N := 9) ?hd (cs := #[.int .u64 0, .int .u64 0, .slice none 0 0]) (t := 27) ?hr ?_; (case hd => rfl); (case hg => rfl); (case hr => first | (go_simp; done) | (go_simp; rfl)); intro gb535 hg w138 hbox hb; have n0_ := Aside0.mk (Kd.V_below (Kd.V_elderB (pv HO533.out) gb535 (Nat.le_of_eq hg.symm)) hb); have n1_ := Aside0.mk (blk_below (pk BK517.out) hb); have n2_ := Aside0.mk (below_step (pb HB) hb); have n3_ := Aside0.mk (hbox); have n4_ := Aside0.mk ((pg hg HB : w.heap.size ≤ gb535)); have n5_ := Aside0.mk ((pg hg HB : w.heap.size ≤ gb535)); have n6_ := Aside0.mk ((pl hg (pk BK517.out) : gb517 ≠ gb535)); have n7_ := Aside0.mk ((pl' hg (pk BK517.out) : gb535 ≠ gb517)); clear HO533; clear BK517; clear HB; have HO533 := n0_; have BK517 := n1_; have HB := n2_; have BK535 := n3_; have GW535 := n4_; have GE535 := n5_; have NB517_535 := n6_; have NB535_517 := n7_; clear n0_ n1_ n2_ n3_ n4_ n5_ n6_ n7_; clear hb hbox hg; have hnb139 := NB535_517.out; have hnc139 := NB517_535.out; have hcz140_0 := ce BK535 0; have hcz140_1 := ce BK535 1; have hcz140_2 := ce BK535 2; have hfz140_0 := fz BK535 0; have hfz140_1 := fz BK535 1; have hfz140_2 := fz BK535 2; obtain ⟨Ao141, co141, eo141⟩ := Kd.V_slice HO533.out; subst eo141))
       have n0_ : Aside0 (Kd.V k60 60 (((w138.setCell ⟨gb535, 0, none⟩ (.int .u64 t529)).setCell ⟨gb535, 1, none⟩ (.int .u64 t530)).setCell ⟨gb535, 2, none⟩ (.slice Ao141 t531.length co141)) w.heap.size (fun k_ => k_ ≠ gb517 ∧ k_ ≠ gb535) (.slice Ao141 t531.length co141) t531) := ⟨by refine pv ?_; exact Kd.V_mono (Kd.V_far (p := ⟨gb535, 2, none⟩) (Kd.V_far (p := ⟨gb535, 1, none⟩) (Kd.V_far (p := ⟨gb535, 0, none⟩) (Kd.V_mono HO533.out (fun k_ hk => (⟨hk, hk.2⟩ : _ ∧ k_ ≠ gb535))) (fun _ hk => hk.2) (.int .u64 t529)) (fun _ hk => hk.2) (.int .u64 t530)) (fun _ hk => hk.2) (.slice Ao141 t531.length co141)) (fun _ hk => ⟨hk.1.1, hk.1.2⟩)⟩
       have n1_ : Aside0 ((((w138.setCell ⟨gb535, 0, none⟩ (.int .u64 t529)).setCell ⟨gb535, 1, none⟩ (.int .u64 t530)).setCell ⟨gb535, 2, none⟩ (.slice Ao141 t531.length co141)).heap[gb517]? = some (.cells #[.int .u64 a0_0, .int .u64 a0_1, .slice A0_2 l0_2.length c0_2] 27 (0, 0))) := ⟨by refine pk ?_; refine blk_far ?_ NB517_535.out _; refine pk ?_; refine blk_far ?_ NB517_535.out _; refine pk ?_; refine blk_far ?_ NB517_535.out _; refine pk ?_; exact BK517.out⟩
       have n2_ : Aside0 ((((w138.setCell ⟨gb535, 0, none⟩ (.int .u64 t529)).setCell ⟨gb535, 1, none⟩ (.int .u64 t530)).setCell ⟨gb535, 2, none⟩ (.slice Ao141 t531.length co141)).heap[gb535]? = some (.cells #[.int .u64 t529, .int .u64 t530, .slice Ao141 t531.length co141] 27 (0, 0))) := ⟨by refine pk ?_; refine blk_put (cs := #[.int .u64 t529, .int .u64 t530, .slice none 0 0]) ?_ 2 _ rfl; refine pk ?_; refine blk_put (cs := #[.int .u64 t529, .int .u64 0, .slice none 0 0]) ?_ 1 _ rfl; refine pk ?_; refine blk_put (cs := #[.int .u64 0, .int .u64 0, .slice none 0 0]) ?_ 0 _ rfl; refine pk ?_; exact BK535.out⟩
       have n3_ : Aside0 (Below w.heap.size w (((w138.setCell ⟨gb535, 0, none⟩ (.int .u64 t529)).setCell ⟨gb535, 1, none⟩ (.int .u64 t530)).setCell ⟨gb535, 2, none⟩ (.slice Ao141 t531.length co141))) := ⟨pb HB⟩
       (try clear HO533)
       (try clear BK517)
       (try clear BK535)
       (try clear HB)
       generalize (((w138.setCell ⟨gb535, 0, none⟩ (.int .u64 t529)).setCell ⟨gb535, 1, none⟩ (.int .u64 t530)).setCell ⟨gb535, 2, none⟩ (.slice Ao141 t531.length co141)) = w142 at n0_ n1_ n2_ n3_ ⊢
       have HO533 := n0_
       have BK517 := n1_
       have BK535 := n2_
       have HB := n3_
       clear n0_ n1_ n2_ n3_
       have n0_ := Aside0.mk (Kd.V_drew HO533.out)
       have n1_ := Aside0.mk (blk_drew BK517.out)
       have n2_ := Aside0.mk (blk_drew BK535.out)
       have n3_ := Aside0.mk (below_drew1 HB.out)
       clear HO533
       clear BK517
       clear BK535
       clear HB
       have HO533 := n0_
       have BK517 := n1_
       have BK535 := n2_
       have HB := n3_
       clear n0_ n1_ n2_ n3_
       refine start_ (n := 9) (S := fun w' => w'.cell? ⟨gb535, 0, none⟩ = some (.int .u64 t529) ∧ w'.cell? ⟨gb535, 1, none⟩ = some (.int .u64 t530) ∧ w'.cell? ⟨gb535, 2, none⟩ = some (.slice Ao141 t531.length co141) ∧ w'.cell? ⟨gb517, 0, none⟩ = some (.int .u64 a0_0) ∧ w'.cell? ⟨gb517, 1, none⟩ = some (.int .u64 a0_1) ∧ w'.cell? ⟨gb517, 2, none⟩ = some (.slice A0_2 l0_2.length c0_2)) (ds := []) #[false, false, false, false, false, false, false, false, false] (by kernel_rfl) rfl rfl ⟨ce BK535 0, ce BK535 1, ce BK535 2, ce BK517 0, ce BK517 1, ce BK517 2⟩ (fun hHeld => ?_); refine with_tabW samphirelaw12_IndexBack.tab8 samphirelaw12_IndexBack.bits8 (fun HT_ HW_ => ?_)
       generalize w142.drew = w143 at HO533 BK517 BK535 HB hHeld ⊢
       refine ta 0 hHeld ?_
       refine ta 2 hHeld ?_
       refine on1 1 (fun K hK => ?_)
       refine gs Try.func8 #[.agg #[.int .u64 t529, .int .u64 t530, .slice Ao141 t531.length co141]] ?_
       with_reducible refine (samphirelaw12_Ref.calls kj3 t529 t530 _ _ t531 t536 t537 t538 _ ?side1 ?side2 A129.out).mono ?_
       (case side1 => repeat (first | exact (Kd.V_reads' HO533.out).2.2 | (with_reducible refine Kd.C_alloc ?_ _) | (with_reducible refine Kd.C_drewN ?_ _) | (with_reducible refine Kd.C_drew ?_)))
       (case side2 => exact (Kd.V_reads' HO533.out).2.1)
       rintro e w144 ⟨v539, rfl, ho0, hb⟩
       refine ⟨_, rfl, ?_⟩
       have n0_ := Aside0.mk (Kd.V_elder' (pv HO533.out) (Kd.R_base ho0) hb)
       have n1_ := Aside0.mk (Kd.R_lower ho0 (below_size (pb HB)))
       have n2_ := Aside0.mk (blk_below (pk BK517.out) hb)
       have n3_ := Aside0.mk (blk_below (pk BK535.out) hb)
       have n4_ := Aside0.mk (below_step (pb HB) hb)
       clear HO533
       clear BK517
       clear BK535
       clear HB
       have HO533 := n0_
       have HO540 := n1_
       have BK517 := n2_
       have BK535 := n3_
       have HB := n4_
       clear n0_ n1_ n2_ n3_ n4_
       (try clear hb)
       (try clear hb2)
       (try clear hk)
       (try clear hi)
       (try clear ho0)
       refine hK.out _ _ ⟨ce BK535 0, ce BK535 1, ce BK535 2, ce BK517 0, ce BK517 1, ce BK517 2⟩ (fun hHeld => ?_)
       clear hK K
       refine nm ?_
       refine on1 3 (fun K hK => ?_)
       refine gs Try.func8 #[.agg #[.int .u64 a0_0, .int .u64 a0_1, .slice A0_2 l0_2.length c0_2]] ?_
       with_reducible refine (samphirelaw12_Ref.calls kj3 a0_0 a0_1 _ _ l0_2 t541 t542 t543 _ ?side1 ?side2 A130.out).mono ?_
       (case side1 => repeat (first | exact (Kd.C_below HR0_2.out HB.out) | (with_reducible refine Kd.C_alloc ?_ _) | (with_reducible refine Kd.C_drewN ?_ _) | (with_reducible refine Kd.C_drew ?_)))
       (case side2 => exact HC0_2.out)
       rintro e w145 ⟨v544, rfl, ho0, hb⟩
       refine ⟨_, rfl, ?_⟩
       have n0_ := Aside0.mk (Kd.V_elder' (pv HO533.out) (Kd.R_base ho0) hb)
       have n1_ := Aside0.mk (Kd.R_elder' (pr HO540.out) (Kd.R_base ho0) hb)
       have n2_ := Aside0.mk (Kd.R_lower (Kd.R_new' ho0 (Kd.R_lt (pr HO540.out))) (below_size (pb HB)))
       have n3_ := Aside0.mk (blk_below (pk BK517.out) hb)
       have n4_ := Aside0.mk (blk_below (pk BK535.out) hb)
       have n5_ := Aside0.mk (below_step (pb HB) hb)
       clear HO533
       clear HO540
       clear BK517
       clear BK535
       clear HB
       have HO533 := n0_
       have HO540 := n1_
       have HO545 := n2_
       have BK517 := n3_
       have BK535 := n4_
       have HB := n5_
       clear n0_ n1_ n2_ n3_ n4_ n5_
       (try clear hb)
       (try clear hb2)
       (try clear hk)
       (try clear hi)
       (try clear ho0)
       obtain ⟨Ao146, co146, eo146⟩ := Kd.R_slice HO540.out
       (first | subst eo146 | (injection eo146 with f1_ f2_ f3_; have f4_ := f1_.symm; have f5_ := f3_.symm; clear f1_ f2_ f3_; subst f4_; subst f5_))
       obtain ⟨Ao147, co147, eo147⟩ := Kd.R_slice HO545.out
       (first | subst eo147 | (injection eo147 with f1_ f2_ f3_; have f4_ := f1_.symm; have f5_ := f3_.symm; clear f1_ f2_ f3_; subst f4_; subst f5_))
       refine hK.out _ _ ⟨ce BK535 0, ce BK535 1, ce BK535 2, ce BK517 0, ce BK517 1, ce BK517 2⟩ (fun hHeld => ?_)
       clear hK K
       refine nm ?_
       refine on1 4 (fun K hK => ?_)
       refine gs Try.func17 #[.agg #[.int .u64 t536, .int .u64 t537, .slice Ao146 t538.length co146], .agg #[.int .u64 t541, .int .u64 t542, .slice Ao147 t543.length co147]] ?_
       with_reducible refine (samphireref12_Same.calls kj3 t536 t537 _ _ t538 t541 t542 _ _ t543 true _ ?side1 ?side2 ?side3 ?side4 A131.out).mono ?_
       (case side1 => repeat (first | exact (Kd.R_reads' HO540.out).2.2 | (with_reducible refine Kd.C_alloc ?_ _) | (with_reducible refine Kd.C_drewN ?_ _) | (with_reducible refine Kd.C_drew ?_)))
       (case side2 => exact (Kd.R_reads' HO540.out).2.1)
       (case side3 => repeat (first | exact (Kd.R_reads' HO545.out).2.2 | (with_reducible refine Kd.C_alloc ?_ _) | (with_reducible refine Kd.C_drewN ?_ _) | (with_reducible refine Kd.C_drew ?_)))
       (case side4 => exact (Kd.R_reads' HO545.out).2.1)
       rintro e w148 ⟨rfl, hb⟩
       refine ⟨_, rfl, ?_⟩
       have n0_ := Aside0.mk (Kd.V_below (pv HO533.out) hb)
       have n1_ := Aside0.mk (Kd.R_below (pr HO540.out) hb)
       have n2_ := Aside0.mk (Kd.R_below (pr HO545.out) hb)
       have n3_ := Aside0.mk (blk_below (pk BK517.out) hb)
       have n4_ := Aside0.mk (blk_below (pk BK535.out) hb)
       have n5_ := Aside0.mk (below_step (pb HB) hb)
       clear HO533
       clear HO540
       clear HO545
       clear BK517
       clear BK535
       clear HB
       have HO533 := n0_
       have HO540 := n1_
       have HO545 := n2_
       have BK517 := n3_
       have BK535 := n4_
       have HB := n5_
       clear n0_ n1_ n2_ n3_ n4_ n5_
       (try clear hb)
       (try clear hb2)
       (try clear hk)
       (try clear hi)
       refine hK.out _ _ ⟨ce BK535 0, ce BK535 1, ce BK535 2, ce BK517 0, ce BK517 1, ce BK517 2⟩ (fun hHeld => ?_)
       clear hK K
       refine nm ?_
       refine pu 5 ?_
       refine on1 6 (fun K hK => ?_)
       refine gs Try.func10 #[] ?_
       with_reducible refine (samphirelaw12_awake.calls kj3  t547 hrT _ A133.out).mono ?_
       rintro e w149 ⟨rfl, hb⟩
       refine ⟨_, rfl, ?_⟩
       have n0_ := Aside0.mk (Kd.V_below (pv HO533.out) hb)
       have n1_ := Aside0.mk (Kd.R_below (pr HO540.out) hb)
       have n2_ := Aside0.mk (Kd.R_below (pr HO545.out) hb)
       have n3_ := Aside0.mk (blk_below (pk BK517.out) hb)
       have n4_ := Aside0.mk (blk_below (pk BK535.out) hb)
       have n5_ := Aside0.mk (below_step (pb HB) hb)
       clear HO533
       clear HO540
       clear HO545
       clear BK517
       clear BK535
       clear HB
       have HO533 := n0_
       have HO540 := n1_
       have HO545 := n2_
       have BK517 := n3_
       have BK535 := n4_
       have HB := n5_
       clear n0_ n1_ n2_ n3_ n4_ n5_
       (try clear hb)
       (try clear hb2)
       (try clear hk)
       (try clear hi)
       refine hK.out _ _ ⟨ce BK535 0, ce BK535 1, ce BK535 2, ce BK517 0, ce BK517 1, ce BK517 2⟩ (fun hHeld => ?_)
       clear hK K
       refine nm ?_
       refine pu 7 ?_
       refine pu 8 ?_
       refine done_ (done_of HT_.out (by kernel_rfl)) ?_
       try go_wp2
       go_ret
       exact ⟨by first | rfl | (simp [errW_none, errW_some] <;> rfl) | (simp [*, errW_none, errW_some] <;> rfl), pb HB⟩
      ·replace c132 := Bool.eq_false_iff.mpr c132
       subst c132
       have H1 : (some false) = some r := by rw [if_neg (show ¬ (false = true) by decide)] at H; exact H
       exact Bool.noConfusion ((Option.some.inj H1).trans hrT.out)
end Go.Proofs.Ytojpmjkphgjmgaa.H
