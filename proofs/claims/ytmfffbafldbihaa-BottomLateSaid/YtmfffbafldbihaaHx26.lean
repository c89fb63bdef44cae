-- laid by wip/hyb.py (the kit's printer with turns of ours)
import Derived.Test.YtmfffbafldbihaaHx0
import Derived.Test.YtmfffbafldbihaaHx6
import Derived.Test.YtmfffbafldbihaaHx7
import Derived.Test.YtmfffbafldbihaaHx10
import Derived.Test.YtmfffbafldbihaaHx13
import Derived.Test.YtmfffbafldbihaaHx14
import Derived.Test.YtmfffbafldbihaaHx15
import Derived.Test.YtmfffbafldbihaaHx17
namespace Go.Proofs.Ytmfffbafldbihaa.H
open Go.RowKit Go.Proofs.YtmfffbafldbihaaW.PrintWords Go.Proofs.YtmfffbafldbihaaW.PrintLast Go.Proofs.YtmfffbafldbihaaW.PrintMore Go.Proofs.YtmfffbafldbihaaW.Sq
attribute [local go_sem] max2_int min2_int max_two min_two max_three min_three max_four min_four   -- for this text's walks alone
set_option linter.unusedVariables false
set_option linter.unusedSimpArgs false

/-! ### samphirelaw14_BottomLate: function 7 -/
def samphirelaw14_BottomLate.j0 : Nat → ByteArray → Int → Bool → Int → Int → Int → List (S62) → Option (Bool)
 | 0, _, _, _, _, _, _, _ => none
 | k + 1, x1, x2, x37, x579000, x579001, x579002, x579003 => if x37 = true then ((samphirelaw14_awake.f k).bind fun t587 => (some t587)) else ((samphireref05_Sum.f k x579000 x579001 x1).bind fun t588 => ((bottom_Add.f k x579000 x579001 x579002 x579003 x1 x2).bind fun bt590 => (if 0 ≤ x579002 then (if x579002 < (x579003.length : Int) then ((samphireref14_Ahead.f ((rd_T62 x579003 x579002).f0) ((rd_T62 x579003 x579002).f1) ((rd_T62 x579003 x579002).f2.f0) ((rd_T62 x579003 x579002).f2.f1) x1 t588 0 0).bind fun t599 => (if t599 = true then (if bt590.2.2.2.2 = 0 then ((samphirelaw14_ref.f k x579000 x579001 x579002 x579003).bind fun bt600 => ((samphirelaw14_same.f k bt590.1 bt590.2.1 bt590.2.2.1 bt590.2.2.2.1 bt600.1 bt600.2.1 bt600.2.2.1 bt600.2.2.2).bind fun t606 => (if t606 = true then ((samphirelaw14_awake.f k).bind fun t607 => (some t607)) else (some false)))) else (some false)) else (if bt590.2.2.2.2 = 0 then ((samphirelaw14_ref.f k x579000 x579001 x579002 x579003).bind fun bt608 => ((samphirelaw14_same.f k bt590.1 bt590.2.1 bt590.2.2.1 bt590.2.2.2.1 bt608.1 bt608.2.1 bt608.2.2.1 bt608.2.2.2).bind fun t614 => (if t614 = true then (some false) else ((samphirelaw14_awake.f k).bind fun t615 => (some t615))))) else ((samphirelaw14_awake.f k).bind fun t616 => (some t616))))) else (none)) else (none))))
def samphirelaw14_BottomLate.f (k : Nat) (a0_0 : Int) (a0_1 : Int) (a0_2 : Int) (l0_3 : List (S62)) (a1 : ByteArray) (a2 : Int) : Option (Bool) := (samphirelaw14_ref.f k a0_0 a0_1 a0_2 l0_3).bind fun bt579 => ((samphireref14_Small.f k bt579.1 bt579.2.1 bt579.2.2.1 bt579.2.2.2).bind fun t585 => (if t585 = true then ((bottom_Right.f k a0_0 a0_1 a0_2 l0_3).bind fun t586 => (if t586 = true then (if (a1.size : Int) > 64 then (samphirelaw14_BottomLate.j0 k a1 a2 true a0_0 a0_1 a0_2 l0_3) else (if a2 = 0 then (samphirelaw14_BottomLate.j0 k a1 a2 true a0_0 a0_1 a0_2 l0_3) else (samphirelaw14_BottomLate.j0 k a1 a2 ((l0_3.length : Int) != (wrap64 (a0_2 + 1))) a0_0 a0_1 a0_2 l0_3))) else (samphirelaw14_BottomLate.j0 k a1 a2 true a0_0 a0_1 a0_2 l0_3))) else (samphirelaw14_BottomLate.j0 k a1 a2 true a0_0 a0_1 a0_2 l0_3)))
theorem samphirelaw14_BottomLate.mono_l : ∀ k, (∀ y0 y1 y2 y3 y4 y5 y6, LeO (samphirelaw14_BottomLate.j0 k y0 y1 y2 y3 y4 y5 y6) (samphirelaw14_BottomLate.j0 (k + 1) y0 y1 y2 y3 y4 y5 y6))
 | 0 => fun _ _ _ _ _ _ _ r h => by simp [samphirelaw14_BottomLate.j0] at h
 | k + 1 => by
  have ih0 := samphirelaw14_BottomLate.mono_l k
  ·intro y0 y1 y2 y3 y4 y5 y6
   unfold samphirelaw14_BottomLate.j0
   repeat' first
   | (with_reducible exact ih0 _ _ _ _ _ _ _)
   | (with_reducible exact bottom_Add.mono _ _ _ _ _ _ _)
   | (with_reducible exact bottom_Right.mono _ _ _ _ _)
   | (with_reducible exact samphirelaw14_awake.mono _)
   | (with_reducible exact samphirelaw14_ref.mono _ _ _ _ _)
   | (with_reducible exact samphirelaw14_same.mono _ _ _ _ _ _ _ _ _)
   | (with_reducible exact samphireref05_Sum.mono _ _ _ _)
   | (with_reducible exact samphireref14_Small.mono _ _ _ _ _)
   | (with_reducible exact LeO.refl _)
   | (with_reducible exact LeO.none _)
   | (with_reducible refine LeO.ite ?_ ?_)
   | (with_reducible refine LeO.bind ?_ (fun _ => ?_))
   | exact ih0 _ _ _ _ _ _ _
   | exact bottom_Add.mono _ _ _ _ _ _ _
   | exact bottom_Right.mono _ _ _ _ _
   | exact samphirelaw14_awake.mono _
   | exact samphirelaw14_ref.mono _ _ _ _ _
   | exact samphirelaw14_same.mono _ _ _ _ _ _ _ _ _
   | exact samphireref05_Sum.mono _ _ _ _
   | exact samphireref14_Small.mono _ _ _ _ _
   | exact LeO.none _
   | refine LeO.ite ?_ ?_
   | refine LeO.bind ?_ (fun _ => ?_)
theorem samphirelaw14_BottomLate.mono : ∀ a0 a1 a2 a3 a4 a5 k, LeO (samphirelaw14_BottomLate.f k a0 a1 a2 a3 a4 a5) (samphirelaw14_BottomLate.f (k + 1) a0 a1 a2 a3 a4 a5) := by
 intro a0 a1 a2 a3 a4 a5 k
 have ih0 := samphirelaw14_BottomLate.mono_l k
 unfold samphirelaw14_BottomLate.f
 repeat' first
   | (with_reducible exact ih0 _ _ _ _ _ _ _)
   | (with_reducible exact bottom_Add.mono _ _ _ _ _ _ _)
   | (with_reducible exact bottom_Right.mono _ _ _ _ _)
   | (with_reducible exact samphirelaw14_awake.mono _)
   | (with_reducible exact samphirelaw14_ref.mono _ _ _ _ _)
   | (with_reducible exact samphirelaw14_same.mono _ _ _ _ _ _ _ _ _)
   | (with_reducible exact samphireref05_Sum.mono _ _ _ _)
   | (with_reducible exact samphireref14_Small.mono _ _ _ _ _)
   | (with_reducible exact LeO.refl _)
   | (with_reducible exact LeO.none _)
   | (with_reducible refine LeO.ite ?_ ?_)
   | (with_reducible refine LeO.bind ?_ (fun _ => ?_))
   | exact ih0 _ _ _ _ _ _ _
   | exact bottom_Add.mono _ _ _ _ _ _ _
   | exact bottom_Right.mono _ _ _ _ _
   | exact samphirelaw14_awake.mono _
   | exact samphirelaw14_ref.mono _ _ _ _ _
   | exact samphirelaw14_same.mono _ _ _ _ _ _ _ _ _
   | exact samphireref05_Sum.mono _ _ _ _
   | exact samphireref14_Small.mono _ _ _ _ _
   | exact LeO.none _
   | refine LeO.ite ?_ ?_
   | refine LeO.bind ?_ (fun _ => ?_)
def samphirelaw14_BottomLate.T5 : Bool × List (List Nat × List Nat) := (true, [([], []), ([0], [0]), ([], []), ([2], [2]), ([1, 3], [1, 3]), ([4], [4]), ([], []), ([5, 6], [5, 6]), ([7, 7, 0, 1, 2, 3, 4, 5, 6, 7], [7])])
def samphirelaw14_BottomLate.B5 : List Nat := [0, 1, 0, 4, 15, 31, 0, 127, 255]
theorem samphirelaw14_BottomLate.tab5 : rtab .any (opsOf Try.f7 5) = samphirelaw14_BottomLate.T5 := by kernel_rfl
theorem samphirelaw14_BottomLate.bits5 : waitsOk samphirelaw14_BottomLate.T5.2 samphirelaw14_BottomLate.B5 = true := by kernel_rfl
def samphirelaw14_BottomLate.T6 : Bool × List (List Nat × List Nat) := (true, [([], []), ([0], [0]), ([1], [1]), ([2], [2]), ([3, 2], [2, 3]), ([4, 2, 2], [2, 4]), ([5], [5]), ([5], [5]), ([7, 5, 5], [5, 7]), ([6, 8, 8, 5], [5, 6, 8]), ([5, 9, 2], [2, 5, 9]), ([2, 10], [2, 10]), ([11, 9], [11]), ([12], [12]), ([13, 12, 12], [12, 13]), ([14], [14]), ([15, 14], [14, 15]), ([14, 16, 12], [12, 14, 16]), ([17, 14, 12], [12, 17]), ([18], [18]), ([18], [18]), ([20, 18, 18], [18, 20]), ([19, 21, 21, 18], [18, 19, 21]), ([22, 18], [18, 22]), ([18, 23, 12], [12, 18, 23]), ([12, 24], [12, 24]), ([25, 22], [25]), ([26, 26], [26]), ([26, 27], [26, 27]), ([28, 27, 0, 1, 2, 3, 4, 5, 6, 7, 8, 9, 10, 11, 12, 13, 14, 15, 16, 17, 18, 19, 20, 21, 22, 23, 24, 25, 26, 27, 28], [28])])
def samphirelaw14_BottomLate.B6 : List Nat := [0, 1, 3, 7, 15, 31, 63, 63, 191, 511, 1023, 2047, 4095, 8191, 16383, 32767, 65535, 131071, 262143, 524287, 524287, 1572863, 4194303, 8388607, 16777215, 33554431, 67108863, 134217727, 268435455, 536870911]
theorem samphirelaw14_BottomLate.tab6 : rtab .any (opsOf Try.f7 6) = samphirelaw14_BottomLate.T6 := by kernel_rfl
theorem samphirelaw14_BottomLate.bits6 : waitsOk samphirelaw14_BottomLate.T6.2 samphirelaw14_BottomLate.B6 = true := by kernel_rfl
set_option maxHeartbeats 8000000 in
set_option maxRecDepth 100000 in
theorem samphirelaw14_BottomLate.calls (k : Nat) (a0_0 : Int) (a0_1 : Int) (a0_2 : Int) (A0_3 : Option Addr) (c0_3 : Nat) (l0_3 : List (S62)) (a1 : ByteArray) (a2 : Int) (r : Bool) (hrT : Aside0 (r = true)) (w : World) (hr0_3 : Kd.C k62 w A0_3 l0_3.length l0_3) (hc0_3 : l0_3.length ≤ c0_3) (h : samphirelaw14_BottomLate.f k a0_0 a0_1 a0_2 l0_3 a1 a2 = some r) :
  Calls Try.prog 7 #[.agg #[.int .u64 a0_0, .int .u64 a0_1, .int .i64 a0_2, .slice A0_3 l0_3.length c0_3], .string a1, .int .u64 a2] w fun e w' => e = .returned (.bool r) ∧ Below w.heap.size w w' := by
 have hu27 := Try.underlying27
 have hu24 := Try.underlying24
 have hu60 := Try.underlying60
 have hu62 := Try.underlying62
 have HR0_3 := Aside0.mk hr0_3
 have HC0_3 := Aside0.mk hc0_3
 clear hr0_3 hc0_3
 have HB := Aside0.mk (Below.refl w.heap.size w)
 have H : ((samphirelaw14_ref.f k a0_0 a0_1 a0_2 l0_3).bind fun bt579 => ((samphireref14_Small.f k bt579.1 bt579.2.1 bt579.2.2.1 bt579.2.2.2).bind fun t585 => (if t585 = true then ((bottom_Right.f k a0_0 a0_1 a0_2 l0_3).bind fun t586 => (if t586 = true then (if (a1.size : Int) > 64 then (samphirelaw14_BottomLate.j0 k a1 a2 true a0_0 a0_1 a0_2 l0_3) else (if a2 = 0 then (samphirelaw14_BottomLate.j0 k a1 a2 true a0_0 a0_1 a0_2 l0_3) else (samphirelaw14_BottomLate.j0 k a1 a2 ((l0_3.length : Int) != (wrap64 (a0_2 + 1))) a0_0 a0_1 a0_2 l0_3))) else (samphirelaw14_BottomLate.j0 k a1 a2 true a0_0 a0_1 a0_2 l0_3))) else (samphirelaw14_BottomLate.j0 k a1 a2 true a0_0 a0_1 a0_2 l0_3)))) = some r := h
 clear h
 have HC4 := Aside0.mk H
 clear H
 go_enter Try.func7, Try.ntmps7
 go_upto_region 1 with (first | ((with_reducible refine gate_dst (N := 3) rfl ?_); (try (refine gate_guard (by rfl) ?_; dsimp only)); refine box_event ?hg (N := 3) ?hd (cs := #[.int .u64 a0_0, .int .u64 a0_1, .int .i64 a0_2, .slice A0_3 l0_3.length c0_3]) (t := 27) ?hr ?_; (case hd => rfl); (case hg => rfl); (case hr => first | (go_simp; done) | (go_simp; rfl)); intro gb578 hg w5 hbox hb; have n0_ := Aside0.mk (below_step (pb HB) hb); have n1_ := Aside0.mk (hbox); have n2_ := Aside0.mk ((pg hg HB : w.heap.size ≤ gb578)); have n3_ := Aside0.mk ((pg hg HB : w.heap.size ≤ gb578)); clear HB; have HB := n0_; have BK578 := n1_; have GW578 := n2_; have GE578 := n3_; clear n0_ n1_ n2_ n3_; clear hb hbox hg))
 (try simp only [Act.put, List.setIfInBounds_toArray, List.set_cons_zero, List.set_cons_succ])
 go_cut [37] (fun v37 wc => ∃ (kq : Nat) (x37_3 : Bool), v37 = .bool x37_3 ∧ Aside0 (samphirelaw14_BottomLate.j0 kq a1 a2 x37_3 a0_0 a0_1 a0_2 l0_3 = some r) ∧ Aside0 (kq ≤ k) ∧ Aside0 (wc.heap[gb578]? = some (.cells #[.int .u64 a0_0, .int .u64 a0_1, .int .i64 a0_2, (.slice A0_3 l0_3.length c0_3)] 27 (0, 0))) ∧ Aside0 (Below w.heap.size w wc))
 case first =>
  have H := HC4.out
  clear HC4
  replace H := Option.bind_eq_some_iff.mp H
  obtain ⟨⟨t579, t580, t581, t582⟩, A60, H⟩ := H
  replace H : ((samphireref14_Small.f k t579 t580 t581 t582).bind fun t585 => (if t585 = true then ((bottom_Right.f k a0_0 a0_1 a0_2 l0_3).bind fun t586 => (if t586 = true then (if (a1.size : Int) > 64 then (samphirelaw14_BottomLate.j0 k a1 a2 true a0_0 a0_1 a0_2 l0_3) else (if a2 = 0 then (samphirelaw14_BottomLate.j0 k a1 a2 true a0_0 a0_1 a0_2 l0_3) else (samphirelaw14_BottomLate.j0 k a1 a2 ((l0_3.length : Int) != (wrap64 (a0_2 + 1))) a0_0 a0_1 a0_2 l0_3))) else (samphirelaw14_BottomLate.j0 k a1 a2 true a0_0 a0_1 a0_2 l0_3))) else (samphirelaw14_BottomLate.j0 k a1 a2 true a0_0 a0_1 a0_2 l0_3))) = some r := H
  have A6 := Aside0.mk A60
  clear A60
  replace H := Option.bind_eq_some_iff.mp H
  obtain ⟨t585, A70, H⟩ := H
  replace H : (if t585 = true then ((bottom_Right.f k a0_0 a0_1 a0_2 l0_3).bind fun t586 => (if t586 = true then (if (a1.size : Int) > 64 then (samphirelaw14_BottomLate.j0 k a1 a2 true a0_0 a0_1 a0_2 l0_3) else (if a2 = 0 then (samphirelaw14_BottomLate.j0 k a1 a2 true a0_0 a0_1 a0_2 l0_3) else (samphirelaw14_BottomLate.j0 k a1 a2 ((l0_3.length : Int) != (wrap64 (a0_2 + 1))) a0_0 a0_1 a0_2 l0_3))) else (samphirelaw14_BottomLate.j0 k a1 a2 true a0_0 a0_1 a0_2 l0_3))) else (samphirelaw14_BottomLate.j0 k a1 a2 true a0_0 a0_1 a0_2 l0_3)) = some r := H
  have A7 := Aside0.mk A70
  clear A70
  by_cases c8 : t585 = true
  ·subst c8
   have H1 : ((bottom_Right.f k a0_0 a0_1 a0_2 l0_3).bind fun t586 => (if t586 = true then (if (a1.size : Int) > 64 then (samphirelaw14_BottomLate.j0 k a1 a2 true a0_0 a0_1 a0_2 l0_3) else (if a2 = 0 then (samphirelaw14_BottomLate.j0 k a1 a2 true a0_0 a0_1 a0_2 l0_3) else (samphirelaw14_BottomLate.j0 k a1 a2 ((l0_3.length : Int) != (wrap64 (a0_2 + 1))) a0_0 a0_1 a0_2 l0_3))) else (samphirelaw14_BottomLate.j0 k a1 a2 true a0_0 a0_1 a0_2 l0_3))) = some r := by rw [if_pos rfl] at H; exact H
   clear H
   have H := H1
   clear H1
   replace H := Option.bind_eq_some_iff.mp H
   obtain ⟨t586, A90, H⟩ := H
   replace H : (if t586 = true then (if (a1.size : Int) > 64 then (samphirelaw14_BottomLate.j0 k a1 a2 true a0_0 a0_1 a0_2 l0_3) else (if a2 = 0 then (samphirelaw14_BottomLate.j0 k a1 a2 true a0_0 a0_1 a0_2 l0_3) else (samphirelaw14_BottomLate.j0 k a1 a2 ((l0_3.length : Int) != (wrap64 (a0_2 + 1))) a0_0 a0_1 a0_2 l0_3))) else (samphirelaw14_BottomLate.j0 k a1 a2 true a0_0 a0_1 a0_2 l0_3)) = some r := H
   have A9 := Aside0.mk A90
   clear A90
   by_cases c10 : t586 = true
   ·subst c10
    have H1 : (if (a1.size : Int) > 64 then (samphirelaw14_BottomLate.j0 k a1 a2 true a0_0 a0_1 a0_2 l0_3) else (if a2 = 0 then (samphirelaw14_BottomLate.j0 k a1 a2 true a0_0 a0_1 a0_2 l0_3) else (samphirelaw14_BottomLate.j0 k a1 a2 ((l0_3.length : Int) != (wrap64 (a0_2 + 1))) a0_0 a0_1 a0_2 l0_3))) = some r := by rw [if_pos rfl] at H; exact H
    clear H
    have H := H1
    clear H1
    by_cases c11 : (a1.size : Int) > 64
    ·rw [if_pos c11] at H
     have c11b0 : decide (64 < (a1.size : Int)) = true := decide_eq_true c11
     have c11b1 : decide (64 < a1.size) = true := decide_eq_true (by omega)
     clear c11
     (first | rw [c11b0] | (simp only [i64_w, i32_w]; rw [c11b0]) | skip)
     have H' := Aside0.mk H
     clear H
     have hcz12_0 := ce BK578 0
     have hcz12_1 := ce BK578 1
     have hcz12_2 := ce BK578 2
     have hcz12_3 := ce BK578 3
     have hfz12_0 := fz BK578 0
     have hfz12_1 := fz BK578 1
     have hfz12_2 := fz BK578 2
     have hfz12_3 := fz BK578 3
     go_wp2_with (first | ((with_reducible refine gate_callee (f := 9) rfl ?_); refine gl (some 12) Try.func9 #[.agg #[.int .u64 a0_0, .int .u64 a0_1, .int .i64 a0_2, .slice A0_3 l0_3.length c0_3]] ?_; (with_reducible refine (samphirelaw14_ref.calls k a0_0 a0_1 a0_2 _ _ l0_3 t579 t580 t581 t582 _ ?side1 ?side2 A6.out).mono ?_); (case side1 => repeat (first | exact (Kd.C_below HR0_3.out HB.out) | (with_reducible refine Kd.C_alloc ?_ _) | (with_reducible refine Kd.C_drewN ?_ _) | (with_reducible refine Kd.C_drew ?_))); (case side2 => exact HC0_3.out); rintro e w13 ⟨v583, rfl, ho0, hb⟩; refine ⟨_, rfl, ?_⟩; have n0_ := Aside0.mk (Kd.R_lower ho0 (below_size (pb HB))); have n1_ := Aside0.mk (blk_below (pk BK578.out) hb); have n2_ := Aside0.mk (below_step (pb HB) hb); clear BK578; clear HB; have HO584 := n0_; have BK578 := n1_; have HB := n2_; clear n0_ n1_ n2_; (try clear hb); (try clear hb2); (try clear hk); (try clear hi); (try clear ho0); obtain ⟨Ao14, co14, eo14⟩ := Kd.R_slice HO584.out; subst eo14) | ((with_reducible refine gate_callee (f := 10) rfl ?_); refine gl (some 13) Try.func10 #[.agg #[.int .u64 t579, .int .u64 t580, .int .i64 t581, .slice Ao14 t582.length co14]] ?_; (with_reducible refine (samphireref14_Small.calls k t579 t580 t581 _ _ t582 true _ ?side1 ?side2 A7.out).mono ?_); (case side1 => repeat (first | exact (Kd.R_reads' HO584.out).2.2 | (with_reducible refine Kd.C_alloc ?_ _) | (with_reducible refine Kd.C_drewN ?_ _) | (with_reducible refine Kd.C_drew ?_))); (case side2 => exact (Kd.R_reads' HO584.out).2.1); rintro e w15 ⟨rfl, hb⟩; refine ⟨_, rfl, ?_⟩; replace HO584 := Aside0.mk (Kd.R_below (pr HO584.out) hb); replace BK578 := Aside0.mk (blk_below (pk BK578.out) hb); replace HB := Aside0.mk (below_step (pb HB) hb); (try clear hb); (try clear hb2); (try clear hk); (try clear hi); have hcz16_0 := ce BK578 0; have hcz16_1 := ce BK578 1; have hcz16_2 := ce BK578 2; have hcz16_3 := ce BK578 3; have hfz16_0 := fz BK578 0; have hfz16_1 := fz BK578 1; have hfz16_2 := fz BK578 2; have hfz16_3 := fz BK578 3) | (go_at_call 21; (with_reducible refine (bottom_Right.calls k a0_0 a0_1 a0_2 _ _ l0_3 true _ ?side1 ?side2 A9.out).mono ?_); (case side1 => repeat (first | exact (Kd.C_below HR0_3.out HB.out) | (with_reducible refine Kd.C_alloc ?_ _) | (with_reducible refine Kd.C_drewN ?_ _) | (with_reducible refine Kd.C_drew ?_))); (case side2 => exact HC0_3.out); rintro e w17 ⟨rfl, hb⟩; replace HO584 := Aside0.mk (Kd.R_below (pr HO584.out) hb); replace BK578 := Aside0.mk (blk_below (pk BK578.out) hb); replace HB := Aside0.mk (below_step (pb HB) hb); (try clear hb); (try clear hb2); (try clear hk); (try clear hi)))
     go_meet
     case rel => exact ⟨_, (true), (by first | rfl | (simp; done) | (simp [*]; done)), H', ⟨by first | omega | exact Nat.le_refl _⟩, ⟨pk BK578.out⟩, ⟨pb HB⟩⟩
    ·rw [if_neg c11] at H
     have c11b0 : decide (64 < (a1.size : Int)) = false := decide_eq_false c11
     have c11b1 : decide (64 < a1.size) = false := decide_eq_false (by omega)
     clear c11
     (first | rw [c11b0] | (simp only [i64_w, i32_w]; rw [c11b0]) | skip)
     by_cases c18 : a2 = 0
     ·rw [if_pos c18] at H
      have c18b0 : (a2 == 0) = true := beq_iff_eq.mpr c18
      have c18b1 : (a2 != 0) = false := bne_eq_false_iff_eq.mpr c18
      clear c18
      have H' := Aside0.mk H
      clear H
      have hcz19_0 := ce BK578 0
      have hcz19_1 := ce BK578 1
      have hcz19_2 := ce BK578 2
      have hcz19_3 := ce BK578 3
      have hfz19_0 := fz BK578 0
      have hfz19_1 := fz BK578 1
      have hfz19_2 := fz BK578 2
      have hfz19_3 := fz BK578 3
      go_wp2_with (first | ((with_reducible refine gate_callee (f := 9) rfl ?_); refine gl (some 12) Try.func9 #[.agg #[.int .u64 a0_0, .int .u64 a0_1, .int .i64 a0_2, .slice A0_3 l0_3.length c0_3]] ?_; (with_reducible refine (samphirelaw14_ref.calls k a0_0 a0_1 a0_2 _ _ l0_3 t579 t580 t581 t582 _ ?side1 ?side2 A6.out).mono ?_); (case side1 => repeat (first | exact (Kd.C_below HR0_3.out HB.out) | (with_reducible refine Kd.C_alloc ?_ _) | (with_reducible refine Kd.C_drewN ?_ _) | (with_reducible refine Kd.C_drew ?_))); (case side2 => exact HC0_3.out); rintro e w20 ⟨v583, rfl, ho0, hb⟩; refine ⟨_, rfl, ?_⟩; have n0_ := Aside0.mk (Kd.R_lower ho0 (below_size (pb HB))); have n1_ := Aside0.mk (blk_below (pk BK578.out) hb); have n2_ := Aside0.mk (below_step (pb HB) hb); clear BK578; clear HB; have HO584 := n0_; have BK578 := n1_; have HB := n2_; clear n0_ n1_ n2_; (try clear hb); (try clear hb2); (try clear hk); (try clear hi); (try clear ho0); obtain ⟨Ao21, co21, eo21⟩ := Kd.R_slice HO584.out; subst eo21) | ((with_reducible refine gate_callee (f := 10) rfl ?_); refine gl (some 13) Try.func10 #[.agg #[.int .u64 t579, .int .u64 t580, .int .i64 t581, .slice Ao21 t582.length co21]] ?_; (with_reducible refine (samphireref14_Small.calls k t579 t580 t581 _ _ t582 true _ ?side1 ?side2 A7.out).mono ?_); (case side1 => repeat (first | exact (Kd.R_reads' HO584.out).2.2 | (with_reducible refine Kd.C_alloc ?_ _) | (with_reducible refine Kd.C_drewN ?_ _) | (with_reducible refine Kd.C_drew ?_))); (case side2 => exact (Kd.R_reads' HO584.out).2.1); rintro e w22 ⟨rfl, hb⟩; refine ⟨_, rfl, ?_⟩; replace HO584 := Aside0.mk (Kd.R_below (pr HO584.out) hb); replace BK578 := Aside0.mk (blk_below (pk BK578.out) hb); replace HB := Aside0.mk (below_step (pb HB) hb); (try clear hb); (try clear hb2); (try clear hk); (try clear hi); have hcz23_0 := ce BK578 0; have hcz23_1 := ce BK578 1; have hcz23_2 := ce BK578 2; have hcz23_3 := ce BK578 3; have hfz23_0 := fz BK578 0; have hfz23_1 := fz BK578 1; have hfz23_2 := fz BK578 2; have hfz23_3 := fz BK578 3) | (go_at_call 21; (with_reducible refine (bottom_Right.calls k a0_0 a0_1 a0_2 _ _ l0_3 true _ ?side1 ?side2 A9.out).mono ?_); (case side1 => repeat (first | exact (Kd.C_below HR0_3.out HB.out) | (with_reducible refine Kd.C_alloc ?_ _) | (with_reducible refine Kd.C_drewN ?_ _) | (with_reducible refine Kd.C_drew ?_))); (case side2 => exact HC0_3.out); rintro e w24 ⟨rfl, hb⟩; replace HO584 := Aside0.mk (Kd.R_below (pr HO584.out) hb); replace BK578 := Aside0.mk (blk_below (pk BK578.out) hb); replace HB := Aside0.mk (below_step (pb HB) hb); (try clear hb); (try clear hb2); (try clear hk); (try clear hi)))
      go_meet
      case rel => exact ⟨_, (true), (by first | rfl | (simp; done) | (simp [*]; done)), H', ⟨by first | omega | exact Nat.le_refl _⟩, ⟨pk BK578.out⟩, ⟨pb HB⟩⟩
     ·rw [if_neg c18] at H
      have c18b0 : (a2 == 0) = false := beq_eq_false_iff_ne.mpr c18
      have c18b1 : (a2 != 0) = true := bne_iff_ne.mpr c18
      have H' := Aside0.mk H
      clear H
      have hcz25_0 := ce BK578 0
      have hcz25_1 := ce BK578 1
      have hcz25_2 := ce BK578 2
      have hcz25_3 := ce BK578 3
      have hfz25_0 := fz BK578 0
      have hfz25_1 := fz BK578 1
      have hfz25_2 := fz BK578 2
      have hfz25_3 := fz BK578 3
      go_wp2_with (first | ((with_reducible refine gate_callee (f := 9) rfl ?_); refine gl (some 12) Try.func9 #[.agg #[.int .u64 a0_0, .int .u64 a0_1, .int .i64 a0_2, .slice A0_3 l0_3.length c0_3]] ?_; (with_reducible refine (samphirelaw14_ref.calls k a0_0 a0_1 a0_2 _ _ l0_3 t579 t580 t581 t582 _ ?side1 ?side2 A6.out).mono ?_); (case side1 => repeat (first | exact (Kd.C_below HR0_3.out HB.out) | (with_reducible refine Kd.C_alloc ?_ _) | (with_reducible refine Kd.C_drewN ?_ _) | (with_reducible refine Kd.C_drew ?_))); (case side2 => exact HC0_3.out); rintro e w26 ⟨v583, rfl, ho0, hb⟩; refine ⟨_, rfl, ?_⟩; have n0_ := Aside0.mk (Kd.R_lower ho0 (below_size (pb HB))); have n1_ := Aside0.mk (blk_below (pk BK578.out) hb); have n2_ := Aside0.mk (below_step (pb HB) hb); clear BK578; clear HB; have HO584 := n0_; have BK578 := n1_; have HB := n2_; clear n0_ n1_ n2_; (try clear hb); (try clear hb2); (try clear hk); (try clear hi); (try clear ho0); obtain ⟨Ao27, co27, eo27⟩ := Kd.R_slice HO584.out; subst eo27) | ((with_reducible refine gate_callee (f := 10) rfl ?_); refine gl (some 13) Try.func10 #[.agg #[.int .u64 t579, .int .u64 t580, .int .i64 t581, .slice Ao27 t582.length co27]] ?_; (with_reducible refine (samphireref14_Small.calls k t579 t580 t581 _ _ t582 true _ ?side1 ?side2 A7.out).mono ?_); (case side1 => repeat (first | exact (Kd.R_reads' HO584.out).2.2 | (with_reducible refine Kd.C_alloc ?_ _) | (with_reducible refine Kd.C_drewN ?_ _) | (with_reducible refine Kd.C_drew ?_))); (case side2 => exact (Kd.R_reads' HO584.out).2.1); rintro e w28 ⟨rfl, hb⟩; refine ⟨_, rfl, ?_⟩; replace HO584 := Aside0.mk (Kd.R_below (pr HO584.out) hb); replace BK578 := Aside0.mk (blk_below (pk BK578.out) hb); replace HB := Aside0.mk (below_step (pb HB) hb); (try clear hb); (try clear hb2); (try clear hk); (try clear hi); have hcz29_0 := ce BK578 0; have hcz29_1 := ce BK578 1; have hcz29_2 := ce BK578 2; have hcz29_3 := ce BK578 3; have hfz29_0 := fz BK578 0; have hfz29_1 := fz BK578 1; have hfz29_2 := fz BK578 2; have hfz29_3 := fz BK578 3) | (go_at_call 21; (with_reducible refine (bottom_Right.calls k a0_0 a0_1 a0_2 _ _ l0_3 true _ ?side1 ?side2 A9.out).mono ?_); (case side1 => repeat (first | exact (Kd.C_below HR0_3.out HB.out) | (with_reducible refine Kd.C_alloc ?_ _) | (with_reducible refine Kd.C_drewN ?_ _) | (with_reducible refine Kd.C_drew ?_))); (case side2 => exact HC0_3.out); rintro e w30 ⟨rfl, hb⟩; replace HO584 := Aside0.mk (Kd.R_below (pr HO584.out) hb); replace BK578 := Aside0.mk (blk_below (pk BK578.out) hb); replace HB := Aside0.mk (below_step (pb HB) hb); (try clear hb); (try clear hb2); (try clear hk); (try clear hi); have hcz31_0 := ce BK578 0; have hcz31_1 := ce BK578 1; have hcz31_2 := ce BK578 2; have hcz31_3 := ce BK578 3; have hfz31_0 := fz BK578 0; have hfz31_1 := fz BK578 1; have hfz31_2 := fz BK578 2; have hfz31_3 := fz BK578 3))
      go_meet
      case rel => exact ⟨_, (((l0_3.length : Int) != (wrap64 (a0_2 + 1)))), (by first | rfl | (simp; done) | (simp [*]; done)), H', ⟨by first | omega | exact Nat.le_refl _⟩, ⟨pk BK578.out⟩, ⟨pb HB⟩⟩
   ·replace c10 := Bool.eq_false_iff.mpr c10
    subst c10
    have H1 : (samphirelaw14_BottomLate.j0 k a1 a2 true a0_0 a0_1 a0_2 l0_3) = some r := by rw [if_neg (show ¬ (false = true) by decide)] at H; exact H
    clear H
    have H := H1
    clear H1
    have H' := Aside0.mk H
    clear H
    have hcz32_0 := ce BK578 0
    have hcz32_1 := ce BK578 1
    have hcz32_2 := ce BK578 2
    have hcz32_3 := ce BK578 3
    have hfz32_0 := fz BK578 0
    have hfz32_1 := fz BK578 1
    have hfz32_2 := fz BK578 2
    have hfz32_3 := fz BK578 3
    go_wp2_with (first | ((with_reducible refine gate_callee (f := 9) rfl ?_); refine gl (some 12) Try.func9 #[.agg #[.int .u64 a0_0, .int .u64 a0_1, .int .i64 a0_2, .slice A0_3 l0_3.length c0_3]] ?_; (with_reducible refine (samphirelaw14_ref.calls k a0_0 a0_1 a0_2 _ _ l0_3 t579 t580 t581 t582 _ ?side1 ?side2 A6.out).mono ?_); (case side1 => repeat (first | exact (Kd.C_below HR0_3.out HB.out) | (with_reducible refine Kd.C_alloc ?_ _) | (with_reducible refine Kd.C_drewN ?_ _) | (with_reducible refine Kd.C_drew ?_))); (case side2 => exact HC0_3.out); rintro e w33 ⟨v583, rfl, ho0, hb⟩; refine ⟨_, rfl, ?_⟩; have n0_ := Aside0.mk (Kd.R_lower ho0 (below_size (pb HB))); have n1_ := Aside0.mk (blk_below (pk BK578.out) hb); have n2_ := Aside0.mk (below_step (pb HB) hb); clear BK578; clear HB; have HO584 := n0_; have BK578 := n1_; have HB := n2_; clear n0_ n1_ n2_; (try clear hb); (try clear hb2); (try clear hk); (try clear hi); (try clear ho0); obtain ⟨Ao34, co34, eo34⟩ := Kd.R_slice HO584.out; subst eo34) | ((with_reducible refine gate_callee (f := 10) rfl ?_); refine gl (some 13) Try.func10 #[.agg #[.int .u64 t579, .int .u64 t580, .int .i64 t581, .slice Ao34 t582.length co34]] ?_; (with_reducible refine (samphireref14_Small.calls k t579 t580 t581 _ _ t582 true _ ?side1 ?side2 A7.out).mono ?_); (case side1 => repeat (first | exact (Kd.R_reads' HO584.out).2.2 | (with_reducible refine Kd.C_alloc ?_ _) | (with_reducible refine Kd.C_drewN ?_ _) | (with_reducible refine Kd.C_drew ?_))); (case side2 => exact (Kd.R_reads' HO584.out).2.1); rintro e w35 ⟨rfl, hb⟩; refine ⟨_, rfl, ?_⟩; replace HO584 := Aside0.mk (Kd.R_below (pr HO584.out) hb); replace BK578 := Aside0.mk (blk_below (pk BK578.out) hb); replace HB := Aside0.mk (below_step (pb HB) hb); (try clear hb); (try clear hb2); (try clear hk); (try clear hi); have hcz36_0 := ce BK578 0; have hcz36_1 := ce BK578 1; have hcz36_2 := ce BK578 2; have hcz36_3 := ce BK578 3; have hfz36_0 := fz BK578 0; have hfz36_1 := fz BK578 1; have hfz36_2 := fz BK578 2; have hfz36_3 := fz BK578 3) | (go_at_call 21; (with_reducible refine (bottom_Right.calls k a0_0 a0_1 a0_2 _ _ l0_3 false _ ?side1 ?side2 A9.out).mono ?_); (case side1 => repeat (first | exact (Kd.C_below HR0_3.out HB.out) | (with_reducible refine Kd.C_alloc ?_ _) | (with_reducible refine Kd.C_drewN ?_ _) | (with_reducible refine Kd.C_drew ?_))); (case side2 => exact HC0_3.out); rintro e w37 ⟨rfl, hb⟩; replace HO584 := Aside0.mk (Kd.R_below (pr HO584.out) hb); replace BK578 := Aside0.mk (blk_below (pk BK578.out) hb); replace HB := Aside0.mk (below_step (pb HB) hb); (try clear hb); (try clear hb2); (try clear hk); (try clear hi)))
    go_meet
    case rel => exact ⟨_, (true), (by first | rfl | (simp; done) | (simp [*]; done)), H', ⟨by first | omega | exact Nat.le_refl _⟩, ⟨pk BK578.out⟩, ⟨pb HB⟩⟩
  ·replace c8 := Bool.eq_false_iff.mpr c8
   subst c8
   have H1 : (samphirelaw14_BottomLate.j0 k a1 a2 true a0_0 a0_1 a0_2 l0_3) = some r := by rw [if_neg (show ¬ (false = true) by decide)] at H; exact H
   clear H
   have H := H1
   clear H1
   have H' := Aside0.mk H
   clear H
   have hcz38_0 := ce BK578 0
   have hcz38_1 := ce BK578 1
   have hcz38_2 := ce BK578 2
   have hcz38_3 := ce BK578 3
   have hfz38_0 := fz BK578 0
   have hfz38_1 := fz BK578 1
   have hfz38_2 := fz BK578 2
   have hfz38_3 := fz BK578 3
   go_wp2_with (first | ((with_reducible refine gate_callee (f := 9) rfl ?_); refine gl (some 12) Try.func9 #[.agg #[.int .u64 a0_0, .int .u64 a0_1, .int .i64 a0_2, .slice A0_3 l0_3.length c0_3]] ?_; (with_reducible refine (samphirelaw14_ref.calls k a0_0 a0_1 a0_2 _ _ l0_3 t579 t580 t581 t582 _ ?side1 ?side2 A6.out).mono ?_); (case side1 => repeat (first | exact (Kd.C_below HR0_3.out HB.out) | (with_reducible refine Kd.C_alloc ?_ _) | (with_reducible refine Kd.C_drewN ?_ _) | (with_reducible refine Kd.C_drew ?_))); (case side2 => exact HC0_3.out); rintro e w39 ⟨v583, rfl, ho0, hb⟩; refine ⟨_, rfl, ?_⟩; have n0_ := Aside0.mk (Kd.R_lower ho0 (below_size (pb HB))); have n1_ := Aside0.mk (blk_below (pk BK578.out) hb); have n2_ := Aside0.mk (below_step (pb HB) hb); clear BK578; clear HB; have HO584 := n0_; have BK578 := n1_; have HB := n2_; clear n0_ n1_ n2_; (try clear hb); (try clear hb2); (try clear hk); (try clear hi); (try clear ho0); obtain ⟨Ao40, co40, eo40⟩ := Kd.R_slice HO584.out; subst eo40) | ((with_reducible refine gate_callee (f := 10) rfl ?_); refine gl (some 13) Try.func10 #[.agg #[.int .u64 t579, .int .u64 t580, .int .i64 t581, .slice Ao40 t582.length co40]] ?_; (with_reducible refine (samphireref14_Small.calls k t579 t580 t581 _ _ t582 false _ ?side1 ?side2 A7.out).mono ?_); (case side1 => repeat (first | exact (Kd.R_reads' HO584.out).2.2 | (with_reducible refine Kd.C_alloc ?_ _) | (with_reducible refine Kd.C_drewN ?_ _) | (with_reducible refine Kd.C_drew ?_))); (case side2 => exact (Kd.R_reads' HO584.out).2.1); rintro e w41 ⟨rfl, hb⟩; refine ⟨_, rfl, ?_⟩; replace HO584 := Aside0.mk (Kd.R_below (pr HO584.out) hb); replace BK578 := Aside0.mk (blk_below (pk BK578.out) hb); replace HB := Aside0.mk (below_step (pb HB) hb); (try clear hb); (try clear hb2); (try clear hk); (try clear hi)))
   go_meet
   case rel => exact ⟨_, (true), (by first | rfl | (simp; done) | (simp [*]; done)), H', ⟨by first | omega | exact Nat.le_refl _⟩, ⟨pk BK578.out⟩, ⟨pb HB⟩⟩
 case rest =>
  clear HC4
  try clear c1
  try clear p2
  try clear p6
  try clear c7
  try clear c8
  try clear c9
  try clear c10
  try clear c11
  try clear c11b0
  try clear c11b1
  try clear c18
  try clear c18b0
  try clear c18b1
  try clear hcz12_0 hcz12_1 hcz12_2 hcz12_3
  try clear hcz16_0 hcz16_1 hcz16_2 hcz16_3
  try clear hcz19_0 hcz19_1 hcz19_2 hcz19_3
  try clear hcz23_0 hcz23_1 hcz23_2 hcz23_3
  try clear hcz25_0 hcz25_1 hcz25_2 hcz25_3
  try clear hcz29_0 hcz29_1 hcz29_2 hcz29_3
  try clear hcz31_0 hcz31_1 hcz31_2 hcz31_3
  try clear hcz32_0 hcz32_1 hcz32_2 hcz32_3
  try clear hcz36_0 hcz36_1 hcz36_2 hcz36_3
  try clear hcz38_0 hcz38_1 hcz38_2 hcz38_3
  try clear hfz12_0 hfz12_1 hfz12_2 hfz12_3
  try clear hfz16_0 hfz16_1 hfz16_2 hfz16_3
  try clear hfz19_0 hfz19_1 hfz19_2 hfz19_3
  try clear hfz23_0 hfz23_1 hfz23_2 hfz23_3
  try clear hfz25_0 hfz25_1 hfz25_2 hfz25_3
  try clear hfz29_0 hfz29_1 hfz29_2 hfz29_3
  try clear hfz31_0 hfz31_1 hfz31_2 hfz31_3
  try clear hfz32_0 hfz32_1 hfz32_2 hfz32_3
  try clear hfz36_0 hfz36_1 hfz36_2 hfz36_3
  try clear hfz38_0 hfz38_1 hfz38_2 hfz38_3
  obtain ⟨kq, x37_3, rfl, HA, HJ3, BK578, HB⟩ := hcut
  cases kq with
  | zero => exact absurd HA.out (by simp [samphirelaw14_BottomLate.j0])
  | succ kj3 =>
   have H := HA.out
   clear HA
   simp only [samphirelaw14_BottomLate.j0] at H
   by_cases c42 : x37_3 = true
   ·subst c42
    have H1 : ((samphirelaw14_awake.f kj3).bind fun t587 => (some t587)) = some r := by rw [if_pos rfl] at H; exact H
    clear H
    have H := H1
    clear H1
    replace H := Option.bind_eq_some_iff.mp H
    obtain ⟨t587, A430, H⟩ := H
    replace H : (some t587) = some r := H
    have A43 := Aside0.mk A430
    clear A430
    obtain rfl := Option.some.inj H
    go_wp2_with (first | ((with_reducible refine gate_callee (f := 11) rfl ?_); refine gl (some 38) Try.func11 #[] ?_; (with_reducible refine (samphirelaw14_awake.calls kj3  t587 hrT _ A43.out).mono ?_); rintro e w44 ⟨rfl, hb⟩; refine ⟨_, rfl, ?_⟩; replace BK578 := Aside0.mk (blk_below (pk BK578.out) hb); replace HB := Aside0.mk (below_step (pb HB) hb); (try clear hb); (try clear hb2); (try clear hk); (try clear hi)))
    go_ret
    exact ⟨by first | rfl | (simp [errW_none, errW_some] <;> rfl) | (simp [*, errW_none, errW_some] <;> rfl), pb HB⟩
   ·replace c42 := Bool.eq_false_iff.mpr c42
    subst c42
    have H1 : ((samphireref05_Sum.f kj3 a0_0 a0_1 a1).bind fun t588 => ((bottom_Add.f kj3 a0_0 a0_1 a0_2 l0_3 a1 a2).bind fun bt590 => (if 0 ≤ a0_2 then (if a0_2 < (l0_3.length : Int) then ((samphireref14_Ahead.f ((rd_T62 l0_3 a0_2).f0) ((rd_T62 l0_3 a0_2).f1) ((rd_T62 l0_3 a0_2).f2.f0) ((rd_T62 l0_3 a0_2).f2.f1) a1 t588 0 0).bind fun t599 => (if t599 = true then (if bt590.2.2.2.2 = 0 then ((samphirelaw14_ref.f kj3 a0_0 a0_1 a0_2 l0_3).bind fun bt600 => ((samphirelaw14_same.f kj3 bt590.1 bt590.2.1 bt590.2.2.1 bt590.2.2.2.1 bt600.1 bt600.2.1 bt600.2.2.1 bt600.2.2.2).bind fun t606 => (if t606 = true then ((samphirelaw14_awake.f kj3).bind fun t607 => (some t607)) else (some false)))) else (some false)) else (if bt590.2.2.2.2 = 0 then ((samphirelaw14_ref.f kj3 a0_0 a0_1 a0_2 l0_3).bind fun bt608 => ((samphirelaw14_same.f kj3 bt590.1 bt590.2.1 bt590.2.2.1 bt590.2.2.2.1 bt608.1 bt608.2.1 bt608.2.2.1 bt608.2.2.2).bind fun t614 => (if t614 = true then (some false) else ((samphirelaw14_awake.f kj3).bind fun t615 => (some t615))))) else ((samphirelaw14_awake.f kj3).bind fun t616 => (some t616))))) else (none)) else (none)))) = some r := by rw [if_neg (show ¬ (false = true) by decide)] at H; exact H
    clear H
    have H := H1
    clear H1
    replace H := Option.bind_eq_some_iff.mp H
    obtain ⟨t588, A450, H⟩ := H
    replace H : ((bottom_Add.f kj3 a0_0 a0_1 a0_2 l0_3 a1 a2).bind fun bt590 => (if 0 ≤ a0_2 then (if a0_2 < (l0_3.length : Int) then ((samphireref14_Ahead.f ((rd_T62 l0_3 a0_2).f0) ((rd_T62 l0_3 a0_2).f1) ((rd_T62 l0_3 a0_2).f2.f0) ((rd_T62 l0_3 a0_2).f2.f1) a1 t588 0 0).bind fun t599 => (if t599 = true then (if bt590.2.2.2.2 = 0 then ((samphirelaw14_ref.f kj3 a0_0 a0_1 a0_2 l0_3).bind fun bt600 => ((samphirelaw14_same.f kj3 bt590.1 bt590.2.1 bt590.2.2.1 bt590.2.2.2.1 bt600.1 bt600.2.1 bt600.2.2.1 bt600.2.2.2).bind fun t606 => (if t606 = true then ((samphirelaw14_awake.f kj3).bind fun t607 => (some t607)) else (some false)))) else (some false)) else (if bt590.2.2.2.2 = 0 then ((samphirelaw14_ref.f kj3 a0_0 a0_1 a0_2 l0_3).bind fun bt608 => ((samphirelaw14_same.f kj3 bt590.1 bt590.2.1 bt590.2.2.1 bt590.2.2.2.1 bt608.1 bt608.2.1 bt608.2.2.1 bt608.2.2.2).bind fun t614 => (if t614 = true then (some false) else ((samphirelaw14_awake.f kj3).bind fun t615 => (some t615))))) else ((samphirelaw14_awake.f kj3).bind fun t616 => (some t616))))) else (none)) else (none))) = some r := H
    have A45 := Aside0.mk A450
    clear A450
    replace H := Option.bind_eq_some_iff.mp H
    obtain ⟨⟨t590, t591, t592, t593, t596⟩, A460, H⟩ := H
    replace H : (if 0 ≤ a0_2 then (if a0_2 < (l0_3.length : Int) then ((samphireref14_Ahead.f ((rd_T62 l0_3 a0_2).f0) ((rd_T62 l0_3 a0_2).f1) ((rd_T62 l0_3 a0_2).f2.f0) ((rd_T62 l0_3 a0_2).f2.f1) a1 t588 0 0).bind fun t599 => (if t599 = true then (if t596 = 0 then ((samphirelaw14_ref.f kj3 a0_0 a0_1 a0_2 l0_3).bind fun bt600 => ((samphirelaw14_same.f kj3 t590 t591 t592 t593 bt600.1 bt600.2.1 bt600.2.2.1 bt600.2.2.2).bind fun t606 => (if t606 = true then ((samphirelaw14_awake.f kj3).bind fun t607 => (some t607)) else (some false)))) else (some false)) else (if t596 = 0 then ((samphirelaw14_ref.f kj3 a0_0 a0_1 a0_2 l0_3).bind fun bt608 => ((samphirelaw14_same.f kj3 t590 t591 t592 t593 bt608.1 bt608.2.1 bt608.2.2.1 bt608.2.2.2).bind fun t614 => (if t614 = true then (some false) else ((samphirelaw14_awake.f kj3).bind fun t615 => (some t615))))) else ((samphirelaw14_awake.f kj3).bind fun t616 => (some t616))))) else (none)) else (none)) = some r := H
    have A46 := Aside0.mk A460
    clear A460
    by_cases c47 : 0 ≤ a0_2
    ·rw [if_pos c47] at H
     have c47b0 : decide (0 ≤ a0_2) = true := decide_eq_true c47
     clear c47
     by_cases c48 : a0_2 < (l0_3.length : Int)
     ·rw [if_pos c48] at H
      have c48b0 : decide (a0_2 < (l0_3.length : Int)) = true := decide_eq_true c48
      clear c48
      replace H := Option.bind_eq_some_iff.mp H
      obtain ⟨t599, A490, H⟩ := H
      replace H : (if t599 = true then (if t596 = 0 then ((samphirelaw14_ref.f kj3 a0_0 a0_1 a0_2 l0_3).bind fun bt600 => ((samphirelaw14_same.f kj3 t590 t591 t592 t593 bt600.1 bt600.2.1 bt600.2.2.1 bt600.2.2.2).bind fun t606 => (if t606 = true then ((samphirelaw14_awake.f kj3).bind fun t607 => (some t607)) else (some false)))) else (some false)) else (if t596 = 0 then ((samphirelaw14_ref.f kj3 a0_0 a0_1 a0_2 l0_3).bind fun bt608 => ((samphirelaw14_same.f kj3 t590 t591 t592 t593 bt608.1 bt608.2.1 bt608.2.2.1 bt608.2.2.2).bind fun t614 => (if t614 = true then (some false) else ((samphirelaw14_awake.f kj3).bind fun t615 => (some t615))))) else ((samphirelaw14_awake.f kj3).bind fun t616 => (some t616)))) = some r := H
      have A49 := Aside0.mk A490
      clear A490
      by_cases c50 : t599 = true
      ·subst c50
       have H1 : (if t596 = 0 then ((samphirelaw14_ref.f kj3 a0_0 a0_1 a0_2 l0_3).bind fun bt600 => ((samphirelaw14_same.f kj3 t590 t591 t592 t593 bt600.1 bt600.2.1 bt600.2.2.1 bt600.2.2.2).bind fun t606 => (if t606 = true then ((samphirelaw14_awake.f kj3).bind fun t607 => (some t607)) else (some false)))) else (some false)) = some r := by rw [if_pos rfl] at H; exact H
       clear H
       have H := H1
       clear H1
       by_cases c51 : t596 = 0
       ·rw [if_pos c51] at H
        have c51b0 : (t596 == 0) = true := beq_iff_eq.mpr c51
        have c51b1 : (t596 != 0) = false := bne_eq_false_iff_eq.mpr c51
        clear c51
        replace H := Option.bind_eq_some_iff.mp H
        obtain ⟨⟨t600, t601, t602, t603⟩, A520, H⟩ := H
        replace H : ((samphirelaw14_same.f kj3 t590 t591 t592 t593 t600 t601 t602 t603).bind fun t606 => (if t606 = true then ((samphirelaw14_awake.f kj3).bind fun t607 => (some t607)) else (some false))) = some r := H
        have A52 := Aside0.mk A520
        clear A520
        replace H := Option.bind_eq_some_iff.mp H
        obtain ⟨t606, A530, H⟩ := H
        replace H : (if t606 = true then ((samphirelaw14_awake.f kj3).bind fun t607 => (some t607)) else (some false)) = some r := H
        have A53 := Aside0.mk A530
        clear A530
        by_cases c54 : t606 = true
        ·subst c54
         have H1 : ((samphirelaw14_awake.f kj3).bind fun t607 => (some t607)) = some r := by rw [if_pos rfl] at H; exact H
         clear H
         have H := H1
         clear H1
         replace H := Option.bind_eq_some_iff.mp H
         obtain ⟨t607, A550, H⟩ := H
         replace H : (some t607) = some r := H
         have A55 := Aside0.mk A550
         clear A550
         obtain rfl := Option.some.inj H
         have hcz56_0 := ce BK578 0
         have hcz56_1 := ce BK578 1
         have hcz56_2 := ce BK578 2
         have hcz56_3 := ce BK578 3
         have hfz56_0 := fz BK578 0
         have hfz56_1 := fz BK578 1
         have hfz56_2 := fz BK578 2
         have hfz56_3 := fz BK578 3
         try go_wp2_with (first | ((with_reducible refine gate_callee (f := 22) rfl ?_); refine gl (some 43) Try.func22 #[.agg #[.int .u64 a0_0, .int .u64 a0_1], .string a1] ?_; (with_reducible refine (samphireref05_Sum.calls kj3 a0_0 a0_1 a1 t588 _ A45.out).mono ?_); rintro e w57 ⟨rfl, hb⟩; refine ⟨_, rfl, ?_⟩; replace BK578 := Aside0.mk (blk_below (pk BK578.out) hb); replace HB := Aside0.mk (below_step (pb HB) hb); (try clear hb); (try clear hb2); (try clear hk); (try clear hi)) | ((with_reducible refine gate_dst (N := 7) rfl ?_); (try (refine gate_guard (by rfl) ?_; dsimp only)); refine box_event ?hg (N := 7) ?hd (cs := #[.string (⟨#[]⟩ : ByteArray), .int .u64 0, .int .u64 0, .int .u64 0]) (t := 60) ?hr ?_; (case hd => rfl); (case hg => rfl); (case hr => first | (go_simp; done) | (go_simp; rfl)); intro gb589 hg w58 hbox hb; have n0_ := Aside0.mk (blk_below (pk BK578.out) hb); have n1_ := Aside0.mk (below_step (pb HB) hb); have n2_ := Aside0.mk (hbox); have n3_ := Aside0.mk ((pg hg HB : w.heap.size ≤ gb589)); have n4_ := Aside0.mk ((pg hg HB : w.heap.size ≤ gb589)); have n5_ := Aside0.mk ((pl hg (pk BK578.out) : gb578 ≠ gb589)); have n6_ := Aside0.mk ((pl' hg (pk BK578.out) : gb589 ≠ gb578)); clear BK578; clear HB; have BK578 := n0_; have HB := n1_; have BK589 := n2_; have GW589 := n3_; have GE589 := n4_; have NB578_589 := n5_; have NB589_578 := n6_; clear n0_ n1_ n2_ n3_ n4_ n5_ n6_; clear hb hbox hg; have hnb59 := NB589_578.out; have hnc59 := NB578_589.out; have hcz60_0 := ce BK589 0; have hcz60_1 := ce BK589 1; have hcz60_2 := ce BK589 2; have hcz60_3 := ce BK589 3; have hfz60_0 := fz BK589 0; have hfz60_1 := fz BK589 1; have hfz60_2 := fz BK589 2; have hfz60_3 := fz BK589 3) | ((with_reducible refine gate_store (t := 60) (p := 7) rfl ?_); refine store_event (t := 60) (p := 7) (v := ?vo_w61) (w1 := ((((w58.setCell ⟨gb589, 0, none⟩ (.string a1)).setCell ⟨gb589, 1, none⟩ (.int .u64 t588)).setCell ⟨gb589, 2, none⟩ (.int .u64 0)).setCell ⟨gb589, 3, none⟩ (.int .u64 0))) ?hg ?ho ?hn ?hr ?_; (case ho => rfl); (case hg => rfl); (case hn => rfl); (case hr => first | (go_simp; done) | (go_simp; rfl)); intro w61 hw; have n0_ : Aside0 (w61.heap[gb578]? = some (.cells #[.int .u64 a0_0, .int .u64 a0_1, .int .i64 a0_2, .slice A0_3 l0_3.length c0_3] 27 (0, 0))) := ⟨(by rw [hw]; exact (by refine pk ?_; refine blk_far ?_ NB578_589.out _; refine pk ?_; refine blk_far ?_ NB578_589.out _; refine pk ?_; refine blk_far ?_ NB578_589.out _; refine pk ?_; refine blk_far ?_ NB578_589.out _; refine pk ?_; exact BK578.out))⟩; have n1_ : Aside0 (w61.heap[gb589]? = some (.cells #[.string a1, .int .u64 t588, .int .u64 0, .int .u64 0] 60 (0, 0))) := ⟨(by rw [hw]; exact (by refine pk ?_; refine blk_put (cs := #[.string a1, .int .u64 t588, .int .u64 0, .int .u64 0]) ?_ 3 _ rfl; refine pk ?_; refine blk_put (cs := #[.string a1, .int .u64 t588, .int .u64 0, .int .u64 0]) ?_ 2 _ rfl; refine pk ?_; refine blk_put (cs := #[.string a1, .int .u64 0, .int .u64 0, .int .u64 0]) ?_ 1 _ rfl; refine pk ?_; refine blk_put (cs := #[.string (⟨#[]⟩ : ByteArray), .int .u64 0, .int .u64 0, .int .u64 0]) ?_ 0 _ rfl; refine pk ?_; exact BK589.out))⟩; have n2_ : Aside0 (Below w.heap.size w w61) := ⟨(by rw [hw]; exact (pb HB))⟩; clear hw; clear BK578; clear BK589; clear HB; have BK578 := n0_; have BK589 := n1_; have HB := n2_; clear n0_ n1_ n2_; have hcz62_0 := ce BK578 0; have hcz62_1 := ce BK578 1; have hcz62_2 := ce BK578 2; have hcz62_3 := ce BK578 3; have hfz62_0 := fz BK578 0; have hfz62_1 := fz BK578 1; have hfz62_2 := fz BK578 2; have hfz62_3 := fz BK578 3) | ((with_reducible refine gate_callee (f := 17) rfl ?_); refine gl (some 49) Try.func17 #[.agg #[.int .u64 a0_0, .int .u64 a0_1, .int .i64 a0_2, .slice A0_3 l0_3.length c0_3], .string a1, .int .u64 a2] ?_; (with_reducible refine (bottom_Add.calls kj3 a0_0 a0_1 a0_2 (fun k_ => k_ < w.heap.size) _ _ l0_3 a1 a2 t590 t591 t592 t593 t596 _ ?side1 A46.out).mono ?_); (case side1 => exact Kd.V_mk HC0_3.out (Kd.F_below (Kd.C_F k62_heap HR0_3.out) (pb HB))); rintro e w63 ⟨v594, rfl, ho0, hb⟩; refine ⟨_, rfl, ?_⟩; have n0_ := Aside0.mk (Kd.V_lower (Kd.V_mono (ok' := fun k_ => k_ ≠ gb578 ∧ k_ ≠ gb589) ho0 (fun k_ hk_ => ⟨Or.elim hk_ (fun hs_ => fun e_ => Nat.not_le.2 hs_ (by rw [e_]; exact GW578.out)) (fun hn_ => (Kd.freshB (g := gb578) (o := .cells #[.int .u64 a0_0, .int .u64 a0_1, .int .i64 a0_2, .slice A0_3 l0_3.length c0_3] 27 (0, 0)) (pk BK578.out) k_ hn_)), Or.elim hk_ (fun hs_ => fun e_ => Nat.not_le.2 hs_ (by rw [e_]; exact GW589.out)) (fun hn_ => (Kd.freshB (g := gb589) (o := .cells #[.string a1, .int .u64 t588, .int .u64 0, .int .u64 0] 60 (0, 0)) (pk BK589.out) k_ hn_))⟩)) (below_size (pb HB))); have n1_ := Aside0.mk (blk_below (pk BK578.out) hb); have n2_ := Aside0.mk (blk_below (pk BK589.out) hb); have n3_ := Aside0.mk (below_step (pb HB) hb); clear BK578; clear BK589; clear HB; have HO595 := n0_; have BK578 := n1_; have BK589 := n2_; have HB := n3_; clear n0_ n1_ n2_ n3_; (try clear hb); (try clear hb2); (try clear hk); (try clear hi); (try clear ho0)) | ((with_reducible refine gate_dst (N := 8) rfl ?_); (try (refine gate_guard (by rfl) ?_; dsimp only)); refine box_event ?hg (N := 8) ?hd (cs := #[.int .u64 0, .int .u64 0, .int .i64 0, .slice none 0 0]) (t := 27) ?hr ?_; (case hd => rfl); (case hg => rfl); (case hr => first | (go_simp; done) | (go_simp; rfl)); intro gb597 hg w64 hbox hb; have n0_ := Aside0.mk (Kd.V_below (Kd.V_elderB (pv HO595.out) gb597 (Nat.le_of_eq hg.symm)) hb); have n1_ := Aside0.mk (blk_below (pk BK578.out) hb); have n2_ := Aside0.mk (blk_below (pk BK589.out) hb); have n3_ := Aside0.mk (below_step (pb HB) hb); have n4_ := Aside0.mk (hbox); have n5_ := Aside0.mk ((pg hg HB : w.heap.size ≤ gb597)); have n6_ := Aside0.mk ((pg hg HB : w.heap.size ≤ gb597)); have n7_ := Aside0.mk ((pl hg (pk BK578.out) : gb578 ≠ gb597)); have n8_ := Aside0.mk ((pl' hg (pk BK578.out) : gb597 ≠ gb578)); have n9_ := Aside0.mk ((pl hg (pk BK589.out) : gb589 ≠ gb597)); have n10_ := Aside0.mk ((pl' hg (pk BK589.out) : gb597 ≠ gb589)); clear HO595; clear BK578; clear BK589; clear HB; have HO595 := n0_; have BK578 := n1_; have BK589 := n2_; have HB := n3_; have BK597 := n4_; have GW597 := n5_; have GE597 := n6_; have NB578_597 := n7_; have NB597_578 := n8_; have NB589_597 := n9_; have NB597_589 := n10_; clear n0_ n1_ n2_ n3_ n4_ n5_ n6_ n7_ n8_ n9_ n10_; clear hb hbox hg; have hnb65 := NB597_578.out; have hnc65 := NB578_597.out; have hnb66 := NB597_589.out; have hnc66 := NB589_597.out; have hcz67_0 := ce BK597 0; have hcz67_1 := ce BK597 1; have hcz67_2 := ce BK597 2; have hcz67_3 := ce BK597 3; have hfz67_0 := fz BK597 0; have hfz67_1 := fz BK597 1; have hfz67_2 := fz BK597 2; have hfz67_3 := fz BK597 3; obtain ⟨Ao68, co68, eo68⟩ := Kd.V_slice HO595.out; subst eo68))
         have n0_ : Aside0 (Kd.V k62 62 ((((w64.setCell ⟨gb597, 0, none⟩ (.int .u64 t590)).setCell ⟨gb597, 1, none⟩ (.int .u64 t591)).setCell ⟨gb597, 2, none⟩ (.int .i64 t592)).setCell ⟨gb597, 3, none⟩ (.slice Ao68 t593.length co68)) w.heap.size (fun k_ => k_ ≠ gb578 ∧ k_ ≠ gb589 ∧ k_ ≠ gb597) (.slice Ao68 t593.length co68) t593) := ⟨by refine pv ?_; exact Kd.V_mono (Kd.V_far (p := ⟨gb597, 3, none⟩) (Kd.V_far (p := ⟨gb597, 2, none⟩) (Kd.V_far (p := ⟨gb597, 1, none⟩) (Kd.V_far (p := ⟨gb597, 0, none⟩) (Kd.V_mono HO595.out (fun k_ hk => (⟨hk, hk.2⟩ : _ ∧ k_ ≠ gb597))) (fun _ hk => hk.2) (.int .u64 t590)) (fun _ hk => hk.2) (.int .u64 t591)) (fun _ hk => hk.2) (.int .i64 t592)) (fun _ hk => hk.2) (.slice Ao68 t593.length co68)) (fun _ hk => ⟨hk.1.1.1, ⟨hk.1.1.2, hk.1.2⟩⟩)⟩
         have n1_ : Aside0 (((((w64.setCell ⟨gb597, 0, none⟩ (.int .u64 t590)).setCell ⟨gb597, 1, none⟩ (.int .u64 t591)).setCell ⟨gb597, 2, none⟩ (.int .i64 t592)).setCell ⟨gb597, 3, none⟩ (.slice Ao68 t593.length co68)).heap[gb578]? = some (.cells #[.int .u64 a0_0, .int .u64 a0_1, .int .i64 a0_2, .slice A0_3 l0_3.length c0_3] 27 (0, 0))) := ⟨by refine pk ?_; refine blk_far ?_ NB578_597.out _; refine pk ?_; refine blk_far ?_ NB578_597.out _; refine pk ?_; refine blk_far ?_ NB578_597.out _; refine pk ?_; refine blk_far ?_ NB578_597.out _; refine pk ?_; exact BK578.out⟩
         have n2_ : Aside0 (((((w64.setCell ⟨gb597, 0, none⟩ (.int .u64 t590)).setCell ⟨gb597, 1, none⟩ (.int .u64 t591)).setCell ⟨gb597, 2, none⟩ (.int .i64 t592)).setCell ⟨gb597, 3, none⟩ (.slice Ao68 t593.length co68)).heap[gb589]? = some (.cells #[.string a1, .int .u64 t588, .int .u64 0, .int .u64 0] 60 (0, 0))) := ⟨by refine pk ?_; refine blk_far ?_ NB589_597.out _; refine pk ?_; refine blk_far ?_ NB589_597.out _; refine pk ?_; refine blk_far ?_ NB589_597.out _; refine pk ?_; refine blk_far ?_ NB589_597.out _; refine pk ?_; exact BK589.out⟩
         have n3_ : Aside0 (((((w64.setCell ⟨gb597, 0, none⟩ (.int .u64 t590)).setCell ⟨gb597, 1, none⟩ (.int .u64 t591)).setCell ⟨gb597, 2, none⟩ (.int .i64 t592)).setCell ⟨gb597, 3, none⟩ (.slice Ao68 t593.length co68)).heap[gb597]? = some (.cells #[.int .u64 t590, .int .u64 t591, .int .i64 t592, .slice Ao68 t593.length co68] 27 (0, 0))) := ⟨by refine pk ?_; refine blk_put (cs := #[.int .u64 t590, .int .u64 t591, .int .i64 t592, .slice none 0 0]) ?_ 3 _ rfl; refine pk ?_; refine blk_put (cs := #[.int .u64 t590, .int .u64 t591, .int .i64 0, .slice none 0 0]) ?_ 2 _ rfl; refine pk ?_; refine blk_put (cs := #[.int .u64 t590, .int .u64 0, .int .i64 0, .slice none 0 0]) ?_ 1 _ rfl; refine pk ?_; refine blk_put (cs := #[.int .u64 0, .int .u64 0, .int .i64 0, .slice none 0 0]) ?_ 0 _ rfl; refine pk ?_; exact BK597.out⟩
         have n4_ : Aside0 (Below w.heap.size w ((((w64.setCell ⟨gb597, 0, none⟩ (.int .u64 t590)).setCell ⟨gb597, 1, none⟩ (.int .u64 t591)).setCell ⟨gb597, 2, none⟩ (.int .i64 t592)).setCell ⟨gb597, 3, none⟩ (.slice Ao68 t593.length co68))) := ⟨pb HB⟩
         (try clear HO595)
         (try clear BK578)
         (try clear BK589)
         (try clear BK597)
         (try clear HB)
         generalize ((((w64.setCell ⟨gb597, 0, none⟩ (.int .u64 t590)).setCell ⟨gb597, 1, none⟩ (.int .u64 t591)).setCell ⟨gb597, 2, none⟩ (.int .i64 t592)).setCell ⟨gb597, 3, none⟩ (.slice Ao68 t593.length co68)) = w69 at n0_ n1_ n2_ n3_ n4_ ⊢
         have HO595 := n0_
         have BK578 := n1_
         have BK589 := n2_
         have BK597 := n3_
         have HB := n4_
         clear n0_ n1_ n2_ n3_ n4_
         replace HO595 := Aside0.mk (Kd.V_drew HO595.out)
         replace BK578 := Aside0.mk (blk_drew BK578.out)
         replace BK589 := Aside0.mk (blk_drew BK589.out)
         replace BK597 := Aside0.mk (blk_drew BK597.out)
         replace HB := Aside0.mk (below_drew1 HB.out)
         have p598 : 0 ≤ (a0_2 : Int) := of_decide_eq_true (by first | (with_reducible assumption) | assumption)
         have q598 : a0_2 < (l0_3.length : Int) := of_decide_eq_true (by first | (with_reducible assumption) | assumption)
         obtain ⟨ad598, e598, hx598_0, hx598_1, hx598_2, hx598_3⟩ := at_T62 HR0_3.out a0_2 p598 q598
         have hw598_3 := hx598_3
         have hw598_2 := hx598_2
         have hw598_1 := hx598_1
         have hw598_0 := hx598_0
         cases e598
         replace hx598_0 := (HB.out.cell (World.block_lt_of_cell? w _ hx598_0)).trans hx598_0
         replace hx598_1 := (HB.out.cell (World.block_lt_of_cell? w _ hx598_1)).trans hx598_1
         replace hx598_2 := (HB.out.cell (World.block_lt_of_cell? w _ hx598_2)).trans hx598_2
         replace hx598_3 := (HB.out.cell (World.block_lt_of_cell? w _ hx598_3)).trans hx598_3
         replace p598 := eq_true p598
         replace q598 := eq_true q598
         refine start_ (n := 9) (S := fun w' => w'.cell? ⟨gb578, 0, none⟩ = some (.int .u64 a0_0) ∧ w'.cell? ⟨gb578, 1, none⟩ = some (.int .u64 a0_1) ∧ w'.cell? ⟨gb578, 2, none⟩ = some (.int .i64 a0_2) ∧ w'.cell? ⟨gb578, 3, none⟩ = some (.slice (some ad598) l0_3.length c0_3) ∧ w'.cell? ⟨gb589, 0, none⟩ = some (.string a1) ∧ w'.cell? ⟨gb589, 1, none⟩ = some (.int .u64 t588) ∧ w'.cell? ⟨gb589, 2, none⟩ = some (.int .u64 0) ∧ w'.cell? ⟨gb589, 3, none⟩ = some (.int .u64 0) ∧ w'.cell? (ad598.add ((a0_2).toNat * 4)) = some (.string ((rd_T62 l0_3 a0_2).f0)) ∧ w'.cell? ⟨(ad598.add ((a0_2).toNat * 4)).block, (ad598.add ((a0_2).toNat * 4)).off + 1, none⟩ = some (.int .u64 ((rd_T62 l0_3 a0_2).f1)) ∧ w'.cell? ⟨(ad598.add ((a0_2).toNat * 4)).block, (ad598.add ((a0_2).toNat * 4)).off + 2, none⟩ = some (.int .u64 ((rd_T62 l0_3 a0_2).f2.f0)) ∧ w'.cell? ⟨(ad598.add ((a0_2).toNat * 4)).block, (ad598.add ((a0_2).toNat * 4)).off + 3, none⟩ = some (.int .u64 ((rd_T62 l0_3 a0_2).f2.f1))) (ds := []) #[false, false, false, false, false, false, false, false, false] (by kernel_rfl) rfl rfl ⟨ce BK578 0, ce BK578 1, ce BK578 2, ce BK578 3, ce BK589 0, ce BK589 1, ce BK589 2, ce BK589 3, ((HB.out.cell (World.block_lt_of_cell? w _ hw598_0)).trans hw598_0), ((HB.out.cell (World.block_lt_of_cell? w _ hw598_1)).trans hw598_1), ((HB.out.cell (World.block_lt_of_cell? w _ hw598_2)).trans hw598_2), ((HB.out.cell (World.block_lt_of_cell? w _ hw598_3)).trans hw598_3)⟩ (fun hHeld => ?_); refine with_tabW samphirelaw14_BottomLate.tab5 samphirelaw14_BottomLate.bits5 (fun HT_ HW_ => ?_)
         generalize w69.drew = w70 at HO595 BK578 BK589 BK597 HB hx598_0 hx598_1 hx598_2 hx598_3 hHeld ⊢
         refine pu 0 ?_
         refine pu 2 ?_
         refine ta 1 hHeld ?_
         refine ta 3 hHeld ?_
         refine pu 4 ?_
         refine ta 5 hHeld ?_
         refine ta 6 hHeld ?_
         refine on1 7 (fun K hK => ?_)
         refine gs Try.func23 #[.agg #[.string ((rd_T62 l0_3 a0_2).f0), .int .u64 ((rd_T62 l0_3 a0_2).f1), .int .u64 ((rd_T62 l0_3 a0_2).f2.f0), .int .u64 ((rd_T62 l0_3 a0_2).f2.f1)], .agg #[.string a1, .int .u64 t588, .int .u64 0, .int .u64 0]] ?_
         with_reducible refine (samphireref14_Ahead.calls ((rd_T62 l0_3 a0_2).f0) ((rd_T62 l0_3 a0_2).f1) ((rd_T62 l0_3 a0_2).f2.f0) ((rd_T62 l0_3 a0_2).f2.f1) a1 t588 0 0 true _ A49.out).mono ?_
         rintro e w71 ⟨rfl, hb⟩
         refine ⟨_, rfl, ?_⟩
         replace HO595 := Aside0.mk (Kd.V_below (pv HO595.out) hb)
         replace BK578 := Aside0.mk (blk_below (pk BK578.out) hb)
         replace BK589 := Aside0.mk (blk_below (pk BK589.out) hb)
         replace BK597 := Aside0.mk (blk_below (pk BK597.out) hb)
         replace HB := Aside0.mk (below_step (pb HB) hb)
         (try clear hb)
         (try clear hb2)
         (try clear hk)
         (try clear hi)
         refine hK.out _ _ ⟨ce BK578 0, ce BK578 1, ce BK578 2, ce BK578 3, ce BK589 0, ce BK589 1, ce BK589 2, ce BK589 3, ((HB.out.cell (World.block_lt_of_cell? w _ hw598_0)).trans hw598_0), ((HB.out.cell (World.block_lt_of_cell? w _ hw598_1)).trans hw598_1), ((HB.out.cell (World.block_lt_of_cell? w _ hw598_2)).trans hw598_2), ((HB.out.cell (World.block_lt_of_cell? w _ hw598_3)).trans hw598_3)⟩ (fun hHeld => ?_)
         clear hK K
         refine nm ?_
         refine pu 8 ?_
         refine done_ (done_of HT_.out (by kernel_rfl)) ?_
         try go_wp2
         replace HO595 := Aside0.mk (Kd.V_drew HO595.out)
         replace BK578 := Aside0.mk (blk_drew BK578.out)
         replace BK589 := Aside0.mk (blk_drew BK589.out)
         replace BK597 := Aside0.mk (blk_drew BK597.out)
         replace HB := Aside0.mk (below_drew1 HB.out)
         refine start_ (n := 30) (S := fun w' => w'.cell? ⟨gb597, 0, none⟩ = some (.int .u64 t590) ∧ w'.cell? ⟨gb597, 1, none⟩ = some (.int .u64 t591) ∧ w'.cell? ⟨gb597, 2, none⟩ = some (.int .i64 t592) ∧ w'.cell? ⟨gb597, 3, none⟩ = some (.slice Ao68 t593.length co68) ∧ w'.cell? ⟨gb578, 0, none⟩ = some (.int .u64 a0_0) ∧ w'.cell? ⟨gb578, 1, none⟩ = some (.int .u64 a0_1) ∧ w'.cell? ⟨gb578, 2, none⟩ = some (.int .i64 a0_2) ∧ w'.cell? ⟨gb578, 3, none⟩ = some (.slice (some ad598) l0_3.length c0_3)) (ds := []) #[false, false, false, false, false, false, false, false, false, false, false, false, false, false, false, false, false, false, false, false, false, false, false, false, false, false, false, false, false, false] (by kernel_rfl) rfl rfl ⟨ce BK597 0, ce BK597 1, ce BK597 2, ce BK597 3, ce BK578 0, ce BK578 1, ce BK578 2, ce BK578 3⟩ (fun hHeld => ?_); refine with_tabW samphirelaw14_BottomLate.tab6 samphirelaw14_BottomLate.bits6 (fun HT_ HW_ => ?_)
         generalize w71.drew = w72 at HO595 BK578 BK589 BK597 HB hHeld ⊢
         refine pu 0 ?_
         refine pu 1 ?_
         refine pu 2 ?_
         refine pu 3 ?_
         refine pu 4 ?_
         refine pu 5 ?_
         refine ta 6 hHeld ?_
         refine ta 7 hHeld ?_
         refine on1 8 (fun K hK => ?_)
         refine gs Try.func9 #[.agg #[.int .u64 a0_0, .int .u64 a0_1, .int .i64 a0_2, .slice (some ad598) l0_3.length c0_3]] ?_
         with_reducible refine (samphirelaw14_ref.calls kj3 a0_0 a0_1 a0_2 _ _ l0_3 t600 t601 t602 t603 _ ?side1 ?side2 A52.out).mono ?_
         (case side1 => repeat (first | exact (Kd.C_below HR0_3.out HB.out) | (with_reducible refine Kd.C_alloc ?_ _) | (with_reducible refine Kd.C_drewN ?_ _) | (with_reducible refine Kd.C_drew ?_)))
         (case side2 => exact HC0_3.out)
         rintro e w73 ⟨v604, rfl, ho0, hb⟩
         refine ⟨_, rfl, ?_⟩
         have n0_ := Aside0.mk (Kd.V_elder' (pv HO595.out) (Kd.R_base ho0) hb)
         have n1_ := Aside0.mk (Kd.R_lower (Kd.R_newB ho0 (g := gb589) (o := .cells #[.string a1, .int .u64 t588, .int .u64 0, .int .u64 0] 60 (0, 0)) (pk BK589.out)) (below_size (pb HB)))
         have n2_ := Aside0.mk (blk_below (pk BK578.out) hb)
         have n3_ := Aside0.mk (blk_below (pk BK589.out) hb)
         have n4_ := Aside0.mk (blk_below (pk BK597.out) hb)
         have n5_ := Aside0.mk (below_step (pb HB) hb)
         clear HO595 BK578 BK589 BK597 HB
         have HO595 := n0_
         have HO605 := n1_
         have BK578 := n2_
         have BK589 := n3_
         have BK597 := n4_
         have HB := n5_
         clear n0_ n1_ n2_ n3_ n4_ n5_
         (try clear hb)
         (try clear hb2)
         (try clear hk)
         (try clear hi)
         (try clear ho0)
         obtain ⟨Ao74, co74, eo74⟩ := Kd.R_slice HO605.out
         (first | subst eo74 | (injection eo74 with f1_ f2_ f3_; have f4_ := f1_.symm; have f5_ := f3_.symm; clear f1_ f2_ f3_; subst f4_; subst f5_))
         refine hK.out _ _ ⟨ce BK597 0, ce BK597 1, ce BK597 2, ce BK597 3, ce BK578 0, ce BK578 1, ce BK578 2, ce BK578 3⟩ (fun hHeld => ?_)
         clear hK K
         refine nm ?_
         refine on1 9 (fun K hK => ?_)
         refine gs Try.func13 #[.agg #[.int .u64 t590, .int .u64 t591, .int .i64 t592, .slice Ao68 t593.length co68], .agg #[.int .u64 t600, .int .u64 t601, .int .i64 t602, .slice Ao74 t603.length co74]] ?_
         with_reducible refine (samphirelaw14_same.calls kj3 t590 t591 t592 _ _ t593 t600 t601 t602 _ _ t603 true _ ?side1 ?side2 ?side3 ?side4 A53.out).mono ?_
         (case side1 => repeat (first | exact (Kd.V_reads' HO595.out).2.2 | (with_reducible refine Kd.C_alloc ?_ _) | (with_reducible refine Kd.C_drewN ?_ _) | (with_reducible refine Kd.C_drew ?_)))
         (case side2 => exact (Kd.V_reads' HO595.out).2.1)
         (case side3 => repeat (first | exact (Kd.R_reads' HO605.out).2.2 | (with_reducible refine Kd.C_alloc ?_ _) | (with_reducible refine Kd.C_drewN ?_ _) | (with_reducible refine Kd.C_drew ?_)))
         (case side4 => exact (Kd.R_reads' HO605.out).2.1)
         rintro e w75 ⟨rfl, hb⟩
         refine ⟨_, rfl, ?_⟩
         replace HO595 := Aside0.mk (Kd.V_below (pv HO595.out) hb)
         replace HO605 := Aside0.mk (Kd.R_below (pr HO605.out) hb)
         replace BK578 := Aside0.mk (blk_below (pk BK578.out) hb)
         replace BK589 := Aside0.mk (blk_below (pk BK589.out) hb)
         replace BK597 := Aside0.mk (blk_below (pk BK597.out) hb)
         replace HB := Aside0.mk (below_step (pb HB) hb)
         (try clear hb)
         (try clear hb2)
         (try clear hk)
         (try clear hi)
         refine hK.out _ _ ⟨ce BK597 0, ce BK597 1, ce BK597 2, ce BK597 3, ce BK578 0, ce BK578 1, ce BK578 2, ce BK578 3⟩ (fun hHeld => ?_)
         clear hK K
         refine nm ?_
         refine pu 10 ?_
         refine pu 11 ?_
         refine pu 12 ?_
         refine pu 13 ?_
         refine pu 14 ?_
         refine po 15 ?_
         refine po 16 ?_
         refine pu 17 ?_
         refine pu 18 ?_
         refine po 19 ?_
         refine po 20 ?_
         refine po 21 ?_
         refine po 22 ?_
         refine po 23 ?_
         refine pu 24 ?_
         refine pu 25 ?_
         refine pu 26 ?_
         refine on1 27 (fun K hK => ?_)
         refine gs Try.func11 #[] ?_
         with_reducible refine (samphirelaw14_awake.calls kj3  t607 hrT _ A55.out).mono ?_
         rintro e w76 ⟨rfl, hb⟩
         refine ⟨_, rfl, ?_⟩
         replace HO595 := Aside0.mk (Kd.V_below (pv HO595.out) hb)
         replace HO605 := Aside0.mk (Kd.R_below (pr HO605.out) hb)
         replace BK578 := Aside0.mk (blk_below (pk BK578.out) hb)
         replace BK589 := Aside0.mk (blk_below (pk BK589.out) hb)
         replace BK597 := Aside0.mk (blk_below (pk BK597.out) hb)
         replace HB := Aside0.mk (below_step (pb HB) hb)
         (try clear hb)
         (try clear hb2)
         (try clear hk)
         (try clear hi)
         refine hK.out _ _ ⟨ce BK597 0, ce BK597 1, ce BK597 2, ce BK597 3, ce BK578 0, ce BK578 1, ce BK578 2, ce BK578 3⟩ (fun hHeld => ?_)
         clear hK K
         refine nm ?_
         refine pu 28 ?_
         refine pu 29 ?_
         refine done_ (done_of HT_.out (by kernel_rfl)) ?_
         try go_wp2
         go_ret
         exact ⟨by first | rfl | (simp [errW_none, errW_some] <;> rfl) | (simp [*, errW_none, errW_some] <;> rfl), pb HB⟩
        ·replace c54 := Bool.eq_false_iff.mpr c54
         subst c54
         have H1 : (some false) = some r := by rw [if_neg (show ¬ (false = true) by decide)] at H; exact H
         exact Bool.noConfusion ((Option.some.inj H1).trans hrT.out)
       ·rw [if_neg c51] at H
        exact Bool.noConfusion ((Option.some.inj H).trans hrT.out)
      ·replace c50 := Bool.eq_false_iff.mpr c50
       subst c50
       have H1 : (if t596 = 0 then ((samphirelaw14_ref.f kj3 a0_0 a0_1 a0_2 l0_3).bind fun bt608 => ((samphirelaw14_same.f kj3 t590 t591 t592 t593 bt608.1 bt608.2.1 bt608.2.2.1 bt608.2.2.2).bind fun t614 => (if t614 = true then (some false) else ((samphirelaw14_awake.f kj3).bind fun t615 => (some t615))))) else ((samphirelaw14_awake.f kj3).bind fun t616 => (some t616))) = some r := by rw [if_neg (show ¬ (false = true) by decide)] at H; exact H
       clear H
       have H := H1
       clear H1
       by_cases c114 : t596 = 0
       ·rw [if_pos c114] at H
        have c114b0 : (t596 == 0) = true := beq_iff_eq.mpr c114
        have c114b1 : (t596 != 0) = false := bne_eq_false_iff_eq.mpr c114
        clear c114
        replace H := Option.bind_eq_some_iff.mp H
        obtain ⟨⟨t608, t609, t610, t611⟩, A1150, H⟩ := H
        replace H : ((samphirelaw14_same.f kj3 t590 t591 t592 t593 t608 t609 t610 t611).bind fun t614 => (if t614 = true then (some false) else ((samphirelaw14_awake.f kj3).bind fun t615 => (some t615)))) = some r := H
        have A115 := Aside0.mk A1150
        clear A1150
        replace H := Option.bind_eq_some_iff.mp H
        obtain ⟨t614, A1160, H⟩ := H
        replace H : (if t614 = true then (some false) else ((samphirelaw14_awake.f kj3).bind fun t615 => (some t615))) = some r := H
        have A116 := Aside0.mk A1160
        clear A1160
        by_cases c117 : t614 = true
        ·subst c117
         have H1 : (some false) = some r := by rw [if_pos rfl] at H; exact H
         exact Bool.noConfusion ((Option.some.inj H1).trans hrT.out)
        ·replace c117 := Bool.eq_false_iff.mpr c117
         subst c117
         have H1 : ((samphirelaw14_awake.f kj3).bind fun t615 => (some t615)) = some r := by rw [if_neg (show ¬ (false = true) by decide)] at H; exact H
         clear H
         have H := H1
         clear H1
         replace H := Option.bind_eq_some_iff.mp H
         obtain ⟨t615, A1380, H⟩ := H
         replace H : (some t615) = some r := H
         have A138 := Aside0.mk A1380
         clear A1380
         obtain rfl := Option.some.inj H
         have hcz139_0 := ce BK578 0
         have hcz139_1 := ce BK578 1
         have hcz139_2 := ce BK578 2
         have hcz139_3 := ce BK578 3
         have hfz139_0 := fz BK578 0
         have hfz139_1 := fz BK578 1
         have hfz139_2 := fz BK578 2
         have hfz139_3 := fz BK578 3
         try go_wp2_with (first | ((with_reducible refine gate_callee (f := 22) rfl ?_); refine gl (some 43) Try.func22 #[.agg #[.int .u64 a0_0, .int .u64 a0_1], .string a1] ?_; (with_reducible refine (samphireref05_Sum.calls kj3 a0_0 a0_1 a1 t588 _ A45.out).mono ?_); rintro e w140 ⟨rfl, hb⟩; refine ⟨_, rfl, ?_⟩; replace BK578 := Aside0.mk (blk_below (pk BK578.out) hb); replace HB := Aside0.mk (below_step (pb HB) hb); (try clear hb); (try clear hb2); (try clear hk); (try clear hi)) | ((with_reducible refine gate_dst (N := 7) rfl ?_); (try (refine gate_guard (by rfl) ?_; dsimp only)); refine box_event ?hg (N := 7) ?hd (cs := #[.string (⟨#[]⟩ : ByteArray), .int .u64 0, .int .u64 0, .int .u64 0]) (t := 60) ?hr ?_; (case hd => rfl); (case hg => rfl); (case hr => first | (go_simp; done) | (go_simp; rfl)); intro gb589 hg w141 hbox hb; have n0_ := Aside0.mk (blk_below (pk BK578.out) hb); have n1_ := Aside0.mk (below_step (pb HB) hb); have n2_ := Aside0.mk (hbox); have n3_ := Aside0.mk ((pg hg HB : w.heap.size ≤ gb589)); have n4_ := Aside0.mk ((pg hg HB : w.heap.size ≤ gb589)); have n5_ := Aside0.mk ((pl hg (pk BK578.out) : gb578 ≠ gb589)); have n6_ := Aside0.mk ((pl' hg (pk BK578.out) : gb589 ≠ gb578)); clear BK578; clear HB; have BK578 := n0_; have HB := n1_; have BK589 := n2_; have GW589 := n3_; have GE589 := n4_; have NB578_589 := n5_; have NB589_578 := n6_; clear n0_ n1_ n2_ n3_ n4_ n5_ n6_; clear hb hbox hg; have hnb142 := NB589_578.out; have hnc142 := NB578_589.out; have hcz143_0 := ce BK589 0; have hcz143_1 := ce BK589 1; have hcz143_2 := ce BK589 2; have hcz143_3 := ce BK589 3; have hfz143_0 := fz BK589 0; have hfz143_1 := fz BK589 1; have hfz143_2 := fz BK589 2; have hfz143_3 := fz BK589 3) | ((with_reducible refine gate_store (t := 60) (p := 7) rfl ?_); refine store_event (t := 60) (p := 7) (v := ?vo_w144) (w1 := ((((w141.setCell ⟨gb589, 0, none⟩ (.string a1)).setCell ⟨gb589, 1, none⟩ (.int .u64 t588)).setCell ⟨gb589, 2, none⟩ (.int .u64 0)).setCell ⟨gb589, 3, none⟩ (.int .u64 0))) ?hg ?ho ?hn ?hr ?_; (case ho => rfl); (case hg => rfl); (case hn => rfl); (case hr => first | (go_simp; done) | (go_simp; rfl)); intro w144 hw; have n0_ : Aside0 (w144.heap[gb578]? = some (.cells #[.int .u64 a0_0, .int .u64 a0_1, .int .i64 a0_2, .slice A0_3 l0_3.length c0_3] 27 (0, 0))) := ⟨(by rw [hw]; exact (by refine pk ?_; refine blk_far ?_ NB578_589.out _; refine pk ?_; refine blk_far ?_ NB578_589.out _; refine pk ?_; refine blk_far ?_ NB578_589.out _; refine pk ?_; refine blk_far ?_ NB578_589.out _; refine pk ?_; exact BK578.out))⟩; have n1_ : Aside0 (w144.heap[gb589]? = some (.cells #[.string a1, .int .u64 t588, .int .u64 0, .int .u64 0] 60 (0, 0))) := ⟨(by rw [hw]; exact (by refine pk ?_; refine blk_put (cs := #[.string a1, .int .u64 t588, .int .u64 0, .int .u64 0]) ?_ 3 _ rfl; refine pk ?_; refine blk_put (cs := #[.string a1, .int .u64 t588, .int .u64 0, .int .u64 0]) ?_ 2 _ rfl; refine pk ?_; refine blk_put (cs := #[.string a1, .int .u64 0, .int .u64 0, .int .u64 0]) ?_ 1 _ rfl; refine pk ?_; refine blk_put (cs := #[.string (⟨#[]⟩ : ByteArray), .int .u64 0, .int .u64 0, .int .u64 0]) ?_ 0 _ rfl; refine pk ?_; exact BK589.out))⟩; have n2_ : Aside0 (Below w.heap.size w w144) := ⟨(by rw [hw]; exact (pb HB))⟩; clear hw; clear BK578; clear BK589; clear HB; have BK578 := n0_; have BK589 := n1_; have HB := n2_; clear n0_ n1_ n2_; have hcz145_0 := ce BK578 0; have hcz145_1 := ce BK578 1; have hcz145_2 := ce BK578 2; have hcz145_3 := ce BK578 3; have hfz145_0 := fz BK578 0; have hfz145_1 := fz BK578 1; have hfz145_2 := fz BK578 2; have hfz145_3 := fz BK578 3) | ((with_reducible refine gate_callee (f := 17) rfl ?_); refine gl (some 49) Try.func17 #[.agg #[.int .u64 a0_0, .int .u64 a0_1, .int .i64 a0_2, .slice A0_3 l0_3.length c0_3], .string a1, .int .u64 a2] ?_; (with_reducible refine (bottom_Add.calls kj3 a0_0 a0_1 a0_2 (fun k_ => k_ < w.heap.size) _ _ l0_3 a1 a2 t590 t591 t592 t593 t596 _ ?side1 A46.out).mono ?_); (case side1 => exact Kd.V_mk HC0_3.out (Kd.F_below (Kd.C_F k62_heap HR0_3.out) (pb HB))); rintro e w146 ⟨v594, rfl, ho0, hb⟩; refine ⟨_, rfl, ?_⟩; have n0_ := Aside0.mk (Kd.V_lower (Kd.V_mono (ok' := fun k_ => k_ ≠ gb578 ∧ k_ ≠ gb589) ho0 (fun k_ hk_ => ⟨Or.elim hk_ (fun hs_ => fun e_ => Nat.not_le.2 hs_ (by rw [e_]; exact GW578.out)) (fun hn_ => (Kd.freshB (g := gb578) (o := .cells #[.int .u64 a0_0, .int .u64 a0_1, .int .i64 a0_2, .slice A0_3 l0_3.length c0_3] 27 (0, 0)) (pk BK578.out) k_ hn_)), Or.elim hk_ (fun hs_ => fun e_ => Nat.not_le.2 hs_ (by rw [e_]; exact GW589.out)) (fun hn_ => (Kd.freshB (g := gb589) (o := .cells #[.string a1, .int .u64 t588, .int .u64 0, .int .u64 0] 60 (0, 0)) (pk BK589.out) k_ hn_))⟩)) (below_size (pb HB))); have n1_ := Aside0.mk (blk_below (pk BK578.out) hb); have n2_ := Aside0.mk (blk_below (pk BK589.out) hb); have n3_ := Aside0.mk (below_step (pb HB) hb); clear BK578; clear BK589; clear HB; have HO595 := n0_; have BK578 := n1_; have BK589 := n2_; have HB := n3_; clear n0_ n1_ n2_ n3_; (try clear hb); (try clear hb2); (try clear hk); (try clear hi); (try clear ho0)) | ((with_reducible refine gate_dst (N := 8) rfl ?_); (try (refine gate_guard (by rfl) ?_; dsimp only)); refine box_event ?hg (N := 8) ?hd (cs := #[.int .u64 0, .int .u64 0, .int .i64 0, .slice none 0 0]) (t := 27) ?hr ?_; (case hd => rfl); (case hg => rfl); (case hr => first | (go_simp; done) | (go_simp; rfl)); intro gb597 hg w147 hbox hb; have n0_ := Aside0.mk (Kd.V_below (Kd.V_elderB (pv HO595.out) gb597 (Nat.le_of_eq hg.symm)) hb); have n1_ := Aside0.mk (blk_below (pk BK578.out) hb); have n2_ := Aside0.mk (blk_below (pk BK589.out) hb); have n3_ := Aside0.mk (below_step (pb HB) hb); have n4_ := Aside0.mk (hbox); have n5_ := Aside0.mk ((pg hg HB : w.heap.size ≤ gb597)); have n6_ := Aside0.mk ((pg hg HB : w.heap.size ≤ gb597)); have n7_ := Aside0.mk ((pl hg (pk BK578.out) : gb578 ≠ gb597)); have n8_ := Aside0.mk ((pl' hg (pk BK578.out) : gb597 ≠ gb578)); have n9_ := Aside0.mk ((pl hg (pk BK589.out) : gb589 ≠ gb597)); have n10_ := Aside0.mk ((pl' hg (pk BK589.out) : gb597 ≠ gb589)); clear HO595; clear BK578; clear BK589; clear HB; have HO595 := n0_; have BK578 := n1_; have BK589 := n2_; have HB := n3_; have BK597 := n4_; have GW597 := n5_; have GE597 := n6_; have NB578_597 := n7_; have NB597_578 := n8_; have NB589_597 := n9_; have NB597_589 := n10_; clear n0_ n1_ n2_ n3_ n4_ n5_ n6_ n7_ n8_ n9_ n10_; clear hb hbox hg; have hnb148 := NB597_578.out; have hnc148 := NB578_597.out; have hnb149 := NB597_589.out; have hnc149 := NB589_597.out; have hcz150_0 := ce BK597 0; have hcz150_1 := ce BK597 1; have hcz150_2 := ce BK597 2; have hcz150_3 := ce BK597 3; have hfz150_0 := fz BK597 0; have hfz150_1 := fz BK597 1; have hfz150_2 := fz BK597 2; have hfz150_3 := fz BK597 3; obtain ⟨Ao151, co151, eo151⟩ := Kd.V_slice HO595.out; subst eo151))
         have n0_ : Aside0 (Kd.V k62 62 ((((w147.setCell ⟨gb597, 0, none⟩ (.int .u64 t590)).setCell ⟨gb597, 1, none⟩ (.int .u64 t591)).setCell ⟨gb597, 2, none⟩ (.int .i64 t592)).setCell ⟨gb597, 3, none⟩ (.slice Ao151 t593.length co151)) w.heap.size (fun k_ => k_ ≠ gb578 ∧ k_ ≠ gb589 ∧ k_ ≠ gb597) (.slice Ao151 t593.length co151) t593) := ⟨by refine pv ?_; exact Kd.V_mono (Kd.V_far (p := ⟨gb597, 3, none⟩) (Kd.V_far (p := ⟨gb597, 2, none⟩) (Kd.V_far (p := ⟨gb597, 1, none⟩) (Kd.V_far (p := ⟨gb597, 0, none⟩) (Kd.V_mono HO595.out (fun k_ hk => (⟨hk, hk.2⟩ : _ ∧ k_ ≠ gb597))) (fun _ hk => hk.2) (.int .u64 t590)) (fun _ hk => hk.2) (.int .u64 t591)) (fun _ hk => hk.2) (.int .i64 t592)) (fun _ hk => hk.2) (.slice Ao151 t593.length co151)) (fun _ hk => ⟨hk.1.1.1, ⟨hk.1.1.2, hk.1.2⟩⟩)⟩
         have n1_ : Aside0 (((((w147.setCell ⟨gb597, 0, none⟩ (.int .u64 t590)).setCell ⟨gb597, 1, none⟩ (.int .u64 t591)).setCell ⟨gb597, 2, none⟩ (.int .i64 t592)).setCell ⟨gb597, 3, none⟩ (.slice Ao151 t593.length co151)).heap[gb578]? = some (.cells #[.int .u64 a0_0, .int .u64 a0_1, .int .i64 a0_2, .slice A0_3 l0_3.length c0_3] 27 (0, 0))) := ⟨by refine pk ?_; refine blk_far ?_ NB578_597.out _; refine pk ?_; refine blk_far ?_ NB578_597.out _; refine pk ?_; refine blk_far ?_ NB578_597.out _; refine pk ?_; refine blk_far ?_ NB578_597.out _; refine pk ?_; exact BK578.out⟩
         have n2_ : Aside0 (((((w147.setCell ⟨gb597, 0, none⟩ (.int .u64 t590)).setCell ⟨gb597, 1, none⟩ (.int .u64 t591)).setCell ⟨gb597, 2, none⟩ (.int .i64 t592)).setCell ⟨gb597, 3, none⟩ (.slice Ao151 t593.length co151)).heap[gb589]? = some (.cells #[.string a1, .int .u64 t588, .int .u64 0, .int .u64 0] 60 (0, 0))) := ⟨by refine pk ?_; refine blk_far ?_ NB589_597.out _; refine pk ?_; refine blk_far ?_ NB589_597.out _; refine pk ?_; refine blk_far ?_ NB589_597.out _; refine pk ?_; refine blk_far ?_ NB589_597.out _; refine pk ?_; exact BK589.out⟩
         have n3_ : Aside0 (((((w147.setCell ⟨gb597, 0, none⟩ (.int .u64 t590)).setCell ⟨gb597, 1, none⟩ (.int .u64 t591)).setCell ⟨gb597, 2, none⟩ (.int .i64 t592)).setCell ⟨gb597, 3, none⟩ (.slice Ao151 t593.length co151)).heap[gb597]? = some (.cells #[.int .u64 t590, .int .u64 t591, .int .i64 t592, .slice Ao151 t593.length co151] 27 (0, 0))) := ⟨by refine pk ?_; refine blk_put (cs := #[.int .u64 t590, .int .u64 t591, .int .i64 t592, .slice none 0 0]) ?_ 3 _ rfl; refine pk ?_; refine blk_put (cs := #[.int .u64 t590, .int .u64 t591, .int .i64 0, .slice none 0 0]) ?_ 2 _ rfl; refine pk ?_; refine blk_put (cs := #[.int .u64 t590, .int .u64 0, .int .i64 0, .slice none 0 0]) ?_ 1 _ rfl; refine pk ?_; refine blk_put (cs := #[.int .u64 0, .int .u64 0, .int .i64 0, .slice none 0 0]) ?_ 0 _ rfl; refine pk ?_; exact BK597.out⟩
         have n4_ : Aside0 (Below w.heap.size w ((((w147.setCell ⟨gb597, 0, none⟩ (.int .u64 t590)).setCell ⟨gb597, 1, none⟩ (.int .u64 t591)).setCell ⟨gb597, 2, none⟩ (.int .i64 t592)).setCell ⟨gb597, 3, none⟩ (.slice Ao151 t593.length co151))) := ⟨pb HB⟩
         (try clear HO595)
         (try clear BK578)
         (try clear BK589)
         (try clear BK597)
         (try clear HB)
         generalize ((((w147.setCell ⟨gb597, 0, none⟩ (.int .u64 t590)).setCell ⟨gb597, 1, none⟩ (.int .u64 t591)).setCell ⟨gb597, 2, none⟩ (.int .i64 t592)).setCell ⟨gb597, 3, none⟩ (.slice Ao151 t593.length co151)) = w152 at n0_ n1_ n2_ n3_ n4_ ⊢
         have HO595 := n0_
         have BK578 := n1_
         have BK589 := n2_
         have BK597 := n3_
         have HB := n4_
         clear n0_ n1_ n2_ n3_ n4_
         replace HO595 := Aside0.mk (Kd.V_drew HO595.out)
         replace BK578 := Aside0.mk (blk_drew BK578.out)
         replace BK589 := Aside0.mk (blk_drew BK589.out)
         replace BK597 := Aside0.mk (blk_drew BK597.out)
         replace HB := Aside0.mk (below_drew1 HB.out)
         have p598 : 0 ≤ (a0_2 : Int) := of_decide_eq_true (by first | (with_reducible assumption) | assumption)
         have q598 : a0_2 < (l0_3.length : Int) := of_decide_eq_true (by first | (with_reducible assumption) | assumption)
         obtain ⟨ad598, e598, hx598_0, hx598_1, hx598_2, hx598_3⟩ := at_T62 HR0_3.out a0_2 p598 q598
         have hw598_3 := hx598_3
         have hw598_2 := hx598_2
         have hw598_1 := hx598_1
         have hw598_0 := hx598_0
         cases e598
         replace hx598_0 := (HB.out.cell (World.block_lt_of_cell? w _ hx598_0)).trans hx598_0
         replace hx598_1 := (HB.out.cell (World.block_lt_of_cell? w _ hx598_1)).trans hx598_1
         replace hx598_2 := (HB.out.cell (World.block_lt_of_cell? w _ hx598_2)).trans hx598_2
         replace hx598_3 := (HB.out.cell (World.block_lt_of_cell? w _ hx598_3)).trans hx598_3
         replace p598 := eq_true p598
         replace q598 := eq_true q598
         refine start_ (n := 9) (S := fun w' => w'.cell? ⟨gb578, 0, none⟩ = some (.int .u64 a0_0) ∧ w'.cell? ⟨gb578, 1, none⟩ = some (.int .u64 a0_1) ∧ w'.cell? ⟨gb578, 2, none⟩ = some (.int .i64 a0_2) ∧ w'.cell? ⟨gb578, 3, none⟩ = some (.slice (some ad598) l0_3.length c0_3) ∧ w'.cell? ⟨gb589, 0, none⟩ = some (.string a1) ∧ w'.cell? ⟨gb589, 1, none⟩ = some (.int .u64 t588) ∧ w'.cell? ⟨gb589, 2, none⟩ = some (.int .u64 0) ∧ w'.cell? ⟨gb589, 3, none⟩ = some (.int .u64 0) ∧ w'.cell? (ad598.add ((a0_2).toNat * 4)) = some (.string ((rd_T62 l0_3 a0_2).f0)) ∧ w'.cell? ⟨(ad598.add ((a0_2).toNat * 4)).block, (ad598.add ((a0_2).toNat * 4)).off + 1, none⟩ = some (.int .u64 ((rd_T62 l0_3 a0_2).f1)) ∧ w'.cell? ⟨(ad598.add ((a0_2).toNat * 4)).block, (ad598.add ((a0_2).toNat * 4)).off + 2, none⟩ = some (.int .u64 ((rd_T62 l0_3 a0_2).f2.f0)) ∧ w'.cell? ⟨(ad598.add ((a0_2).toNat * 4)).block, (ad598.add ((a0_2).toNat * 4)).off + 3, none⟩ = some (.int .u64 ((rd_T62 l0_3 a0_2).f2.f1))) (ds := []) #[false, false, false, false, false, false, false, false, false] (by kernel_rfl) rfl rfl ⟨ce BK578 0, ce BK578 1, ce BK578 2, ce BK578 3, ce BK589 0, ce BK589 1, ce BK589 2, ce BK589 3, ((HB.out.cell (World.block_lt_of_cell? w _ hw598_0)).trans hw598_0), ((HB.out.cell (World.block_lt_of_cell? w _ hw598_1)).trans hw598_1), ((HB.out.cell (World.block_lt_of_cell? w _ hw598_2)).trans hw598_2), ((HB.out.cell (World.block_lt_of_cell? w _ hw598_3)).trans hw598_3)⟩ (fun hHeld => ?_); refine with_tabW samphirelaw14_BottomLate.tab5 samphirelaw14_BottomLate.bits5 (fun HT_ HW_ => ?_)
         generalize w152.drew = w153 at HO595 BK578 BK589 BK597 HB hx598_0 hx598_1 hx598_2 hx598_3 hHeld ⊢
         refine pu 0 ?_
         refine pu 2 ?_
         refine ta 1 hHeld ?_
         refine ta 3 hHeld ?_
         refine pu 4 ?_
         refine ta 5 hHeld ?_
         refine ta 6 hHeld ?_
         refine on1 7 (fun K hK => ?_)
         refine gs Try.func23 #[.agg #[.string ((rd_T62 l0_3 a0_2).f0), .int .u64 ((rd_T62 l0_3 a0_2).f1), .int .u64 ((rd_T62 l0_3 a0_2).f2.f0), .int .u64 ((rd_T62 l0_3 a0_2).f2.f1)], .agg #[.string a1, .int .u64 t588, .int .u64 0, .int .u64 0]] ?_
         with_reducible refine (samphireref14_Ahead.calls ((rd_T62 l0_3 a0_2).f0) ((rd_T62 l0_3 a0_2).f1) ((rd_T62 l0_3 a0_2).f2.f0) ((rd_T62 l0_3 a0_2).f2.f1) a1 t588 0 0 false _ A49.out).mono ?_
         rintro e w154 ⟨rfl, hb⟩
         refine ⟨_, rfl, ?_⟩
         replace HO595 := Aside0.mk (Kd.V_below (pv HO595.out) hb)
         replace BK578 := Aside0.mk (blk_below (pk BK578.out) hb)
         replace BK589 := Aside0.mk (blk_below (pk BK589.out) hb)
         replace BK597 := Aside0.mk (blk_below (pk BK597.out) hb)
         replace HB := Aside0.mk (below_step (pb HB) hb)
         (try clear hb)
         (try clear hb2)
         (try clear hk)
         (try clear hi)
         refine hK.out _ _ ⟨ce BK578 0, ce BK578 1, ce BK578 2, ce BK578 3, ce BK589 0, ce BK589 1, ce BK589 2, ce BK589 3, ((HB.out.cell (World.block_lt_of_cell? w _ hw598_0)).trans hw598_0), ((HB.out.cell (World.block_lt_of_cell? w _ hw598_1)).trans hw598_1), ((HB.out.cell (World.block_lt_of_cell? w _ hw598_2)).trans hw598_2), ((HB.out.cell (World.block_lt_of_cell? w _ hw598_3)).trans hw598_3)⟩ (fun hHeld => ?_)
         clear hK K
         refine nm ?_
         refine pu 8 ?_
         refine done_ (done_of HT_.out (by kernel_rfl)) ?_
         try go_wp2
         replace HO595 := Aside0.mk (Kd.V_drew HO595.out)
         replace BK578 := Aside0.mk (blk_drew BK578.out)
         replace BK589 := Aside0.mk (blk_drew BK589.out)
         replace BK597 := Aside0.mk (blk_drew BK597.out)
         replace HB := Aside0.mk (below_drew1 HB.out)
         refine start_ (n := 30) (S := fun w' => w'.cell? ⟨gb597, 0, none⟩ = some (.int .u64 t590) ∧ w'.cell? ⟨gb597, 1, none⟩ = some (.int .u64 t591) ∧ w'.cell? ⟨gb597, 2, none⟩ = some (.int .i64 t592) ∧ w'.cell? ⟨gb597, 3, none⟩ = some (.slice Ao151 t593.length co151) ∧ w'.cell? ⟨gb578, 0, none⟩ = some (.int .u64 a0_0) ∧ w'.cell? ⟨gb578, 1, none⟩ = some (.int .u64 a0_1) ∧ w'.cell? ⟨gb578, 2, none⟩ = some (.int .i64 a0_2) ∧ w'.cell? ⟨gb578, 3, none⟩ = some (.slice (some ad598) l0_3.length c0_3)) (ds := []) #[false, false, false, false, false, false, false, false, false, false, false, false, false, false, false, false, false, false, false, false, false, false, false, false, false, false, false, false, false, false] (by kernel_rfl) rfl rfl ⟨ce BK597 0, ce BK597 1, ce BK597 2, ce BK597 3, ce BK578 0, ce BK578 1, ce BK578 2, ce BK578 3⟩ (fun hHeld => ?_); refine with_tabW samphirelaw14_BottomLate.tab6 samphirelaw14_BottomLate.bits6 (fun HT_ HW_ => ?_)
         generalize w154.drew = w155 at HO595 BK578 BK589 BK597 HB hHeld ⊢
         refine pu 0 ?_
         refine pu 1 ?_
         refine pu 2 ?_
         refine po 3 ?_
         refine po 4 ?_
         refine po 5 ?_
         refine po 6 ?_
         refine po 7 ?_
         refine po 8 ?_
         refine po 9 ?_
         refine po 10 ?_
         refine pu 11 ?_
         refine pu 12 ?_
         refine pu 13 ?_
         refine pu 14 ?_
         refine pu 15 ?_
         refine pu 16 ?_
         refine pu 17 ?_
         refine pu 18 ?_
         refine ta 19 hHeld ?_
         refine ta 20 hHeld ?_
         refine on1 21 (fun K hK => ?_)
         refine gs Try.func9 #[.agg #[.int .u64 a0_0, .int .u64 a0_1, .int .i64 a0_2, .slice (some ad598) l0_3.length c0_3]] ?_
         with_reducible refine (samphirelaw14_ref.calls kj3 a0_0 a0_1 a0_2 _ _ l0_3 t608 t609 t610 t611 _ ?side1 ?side2 A115.out).mono ?_
         (case side1 => repeat (first | exact (Kd.C_below HR0_3.out HB.out) | (with_reducible refine Kd.C_alloc ?_ _) | (with_reducible refine Kd.C_drewN ?_ _) | (with_reducible refine Kd.C_drew ?_)))
         (case side2 => exact HC0_3.out)
         rintro e w156 ⟨v612, rfl, ho0, hb⟩
         refine ⟨_, rfl, ?_⟩
         have n0_ := Aside0.mk (Kd.V_elder' (pv HO595.out) (Kd.R_base ho0) hb)
         have n1_ := Aside0.mk (Kd.R_lower (Kd.R_newB ho0 (g := gb589) (o := .cells #[.string a1, .int .u64 t588, .int .u64 0, .int .u64 0] 60 (0, 0)) (pk BK589.out)) (below_size (pb HB)))
         have n2_ := Aside0.mk (blk_below (pk BK578.out) hb)
         have n3_ := Aside0.mk (blk_below (pk BK589.out) hb)
         have n4_ := Aside0.mk (blk_below (pk BK597.out) hb)
         have n5_ := Aside0.mk (below_step (pb HB) hb)
         clear HO595 BK578 BK589 BK597 HB
         have HO595 := n0_
         have HO613 := n1_
         have BK578 := n2_
         have BK589 := n3_
         have BK597 := n4_
         have HB := n5_
         clear n0_ n1_ n2_ n3_ n4_ n5_
         (try clear hb)
         (try clear hb2)
         (try clear hk)
         (try clear hi)
         (try clear ho0)
         obtain ⟨Ao157, co157, eo157⟩ := Kd.R_slice HO613.out
         (first | subst eo157 | (injection eo157 with f1_ f2_ f3_; have f4_ := f1_.symm; have f5_ := f3_.symm; clear f1_ f2_ f3_; subst f4_; subst f5_))
         refine hK.out _ _ ⟨ce BK597 0, ce BK597 1, ce BK597 2, ce BK597 3, ce BK578 0, ce BK578 1, ce BK578 2, ce BK578 3⟩ (fun hHeld => ?_)
         clear hK K
         refine nm ?_
         refine on1 22 (fun K hK => ?_)
         refine gs Try.func13 #[.agg #[.int .u64 t590, .int .u64 t591, .int .i64 t592, .slice Ao151 t593.length co151], .agg #[.int .u64 t608, .int .u64 t609, .int .i64 t610, .slice Ao157 t611.length co157]] ?_
         with_reducible refine (samphirelaw14_same.calls kj3 t590 t591 t592 _ _ t593 t608 t609 t610 _ _ t611 false _ ?side1 ?side2 ?side3 ?side4 A116.out).mono ?_
         (case side1 => repeat (first | exact (Kd.V_reads' HO595.out).2.2 | (with_reducible refine Kd.C_alloc ?_ _) | (with_reducible refine Kd.C_drewN ?_ _) | (with_reducible refine Kd.C_drew ?_)))
         (case side2 => exact (Kd.V_reads' HO595.out).2.1)
         (case side3 => repeat (first | exact (Kd.R_reads' HO613.out).2.2 | (with_reducible refine Kd.C_alloc ?_ _) | (with_reducible refine Kd.C_drewN ?_ _) | (with_reducible refine Kd.C_drew ?_)))
         (case side4 => exact (Kd.R_reads' HO613.out).2.1)
         rintro e w158 ⟨rfl, hb⟩
         refine ⟨_, rfl, ?_⟩
         replace HO595 := Aside0.mk (Kd.V_below (pv HO595.out) hb)
         replace HO613 := Aside0.mk (Kd.R_below (pr HO613.out) hb)
         replace BK578 := Aside0.mk (blk_below (pk BK578.out) hb)
         replace BK589 := Aside0.mk (blk_below (pk BK589.out) hb)
         replace BK597 := Aside0.mk (blk_below (pk BK597.out) hb)
         replace HB := Aside0.mk (below_step (pb HB) hb)
         (try clear hb)
         (try clear hb2)
         (try clear hk)
         (try clear hi)
         refine hK.out _ _ ⟨ce BK597 0, ce BK597 1, ce BK597 2, ce BK597 3, ce BK578 0, ce BK578 1, ce BK578 2, ce BK578 3⟩ (fun hHeld => ?_)
         clear hK K
         refine nm ?_
         refine pu 23 ?_
         refine pu 24 ?_
         refine pu 25 ?_
         refine pu 26 ?_
         refine on1 27 (fun K hK => ?_)
         refine gs Try.func11 #[] ?_
         with_reducible refine (samphirelaw14_awake.calls kj3  t615 hrT _ A138.out).mono ?_
         rintro e w159 ⟨rfl, hb⟩
         refine ⟨_, rfl, ?_⟩
         replace HO595 := Aside0.mk (Kd.V_below (pv HO595.out) hb)
         replace HO613 := Aside0.mk (Kd.R_below (pr HO613.out) hb)
         replace BK578 := Aside0.mk (blk_below (pk BK578.out) hb)
         replace BK589 := Aside0.mk (blk_below (pk BK589.out) hb)
         replace BK597 := Aside0.mk (blk_below (pk BK597.out) hb)
         replace HB := Aside0.mk (below_step (pb HB) hb)
         (try clear hb)
         (try clear hb2)
         (try clear hk)
         (try clear hi)
         refine hK.out _ _ ⟨ce BK597 0, ce BK597 1, ce BK597 2, ce BK597 3, ce BK578 0, ce BK578 1, ce BK578 2, ce BK578 3⟩ (fun hHeld => ?_)
         clear hK K
         refine nm ?_
         refine pu 28 ?_
         refine pu 29 ?_
         refine done_ (done_of HT_.out (by kernel_rfl)) ?_
         try go_wp2
         go_ret
         exact ⟨by first | rfl | (simp [errW_none, errW_some] <;> rfl) | (simp [*, errW_none, errW_some] <;> rfl), pb HB⟩
       ·rw [if_neg c114] at H
        have c114b0 : (t596 == 0) = false := beq_eq_false_iff_ne.mpr c114
        have c114b1 : (t596 != 0) = true := bne_iff_ne.mpr c114
        replace H := Option.bind_eq_some_iff.mp H
        obtain ⟨t616, A1600, H⟩ := H
        replace H : (some t616) = some r := H
        have A160 := Aside0.mk A1600
        clear A1600
        obtain rfl := Option.some.inj H
        have hcz161_0 := ce BK578 0
        have hcz161_1 := ce BK578 1
        have hcz161_2 := ce BK578 2
        have hcz161_3 := ce BK578 3
        have hfz161_0 := fz BK578 0
        have hfz161_1 := fz BK578 1
        have hfz161_2 := fz BK578 2
        have hfz161_3 := fz BK578 3
        try go_wp2_with (first | ((with_reducible refine gate_callee (f := 22) rfl ?_); refine gl (some 43) Try.func22 #[.agg #[.int .u64 a0_0, .int .u64 a0_1], .string a1] ?_; (with_reducible refine (samphireref05_Sum.calls kj3 a0_0 a0_1 a1 t588 _ A45.out).mono ?_); rintro e w162 ⟨rfl, hb⟩; refine ⟨_, rfl, ?_⟩; replace BK578 := Aside0.mk (blk_below (pk BK578.out) hb); replace HB := Aside0.mk (below_step (pb HB) hb); (try clear hb); (try clear hb2); (try clear hk); (try clear hi)) | ((with_reducible refine gate_dst (N := 7) rfl ?_); (try (refine gate_guard (by rfl) ?_; dsimp only)); refine box_event ?hg (N := 7) ?hd (cs := #[.string (⟨#[]⟩ : ByteArray), .int .u64 0, .int .u64 0, .int .u64 0]) (t := 60) ?hr ?_; (case hd => rfl); (case hg => rfl); (case hr => first | (go_simp; done) | (go_simp; rfl)); intro gb589 hg w163 hbox hb; have n0_ := Aside0.mk (blk_below (pk BK578.out) hb); have n1_ := Aside0.mk (below_step (pb HB) hb); have n2_ := Aside0.mk (hbox); have n3_ := Aside0.mk ((pg hg HB : w.heap.size ≤ gb589)); have n4_ := Aside0.mk ((pg hg HB : w.heap.size ≤ gb589)); have n5_ := Aside0.mk ((pl hg (pk BK578.out) : gb578 ≠ gb589)); have n6_ := Aside0.mk ((pl' hg (pk BK578.out) : gb589 ≠ gb578)); clear BK578; clear HB; have BK578 := n0_; have HB := n1_; have BK589 := n2_; have GW589 := n3_; have GE589 := n4_; have NB578_589 := n5_; have NB589_578 := n6_; clear n0_ n1_ n2_ n3_ n4_ n5_ n6_; clear hb hbox hg; have hnb164 := NB589_578.out; have hnc164 := NB578_589.out; have hcz165_0 := ce BK589 0; have hcz165_1 := ce BK589 1; have hcz165_2 := ce BK589 2; have hcz165_3 := ce BK589 3; have hfz165_0 := fz BK589 0; have hfz165_1 := fz BK589 1; have hfz165_2 := fz BK589 2; have hfz165_3 := fz BK589 3) | ((with_reducible refine gate_store (t := 60) (p := 7) rfl ?_); refine store_event (t := 60) (p := 7) (v := ?vo_w166) (w1 := ((((w163.setCell ⟨gb589, 0, none⟩ (.string a1)).setCell ⟨gb589, 1, none⟩ (.int .u64 t588)).setCell ⟨gb589, 2, none⟩ (.int .u64 0)).setCell ⟨gb589, 3, none⟩ (.int .u64 0))) ?hg ?ho ?hn ?hr ?_; (case ho => rfl); (case hg => rfl); (case hn => rfl); (case hr => first | (go_simp; done) | (go_simp; rfl)); intro w166 hw; have n0_ : Aside0 (w166.heap[gb578]? = some (.cells #[.int .u64 a0_0, .int .u64 a0_1, .int .i64 a0_2, .slice A0_3 l0_3.length c0_3] 27 (0, 0))) := ⟨(by rw [hw]; exact (by refine pk ?_; refine blk_far ?_ NB578_589.out _; refine pk ?_; refine blk_far ?_ NB578_589.out _; refine pk ?_; refine blk_far ?_ NB578_589.out _; refine pk ?_; refine blk_far ?_ NB578_589.out _; refine pk ?_; exact BK578.out))⟩; have n1_ : Aside0 (w166.heap[gb589]? = some (.cells #[.string a1, .int .u64 t588, .int .u64 0, .int .u64 0] 60 (0, 0))) := ⟨(by rw [hw]; exact (by refine pk ?_; refine blk_put (cs := #[.string a1, .int .u64 t588, .int .u64 0, .int .u64 0]) ?_ 3 _ rfl; refine pk ?_; refine blk_put (cs := #[.string a1, .int .u64 t588, .int .u64 0, .int .u64 0]) ?_ 2 _ rfl; refine pk ?_; refine blk_put (cs := #[.string a1, .int .u64 0, .int .u64 0, .int .u64 0]) ?_ 1 _ rfl; refine pk ?_; refine blk_put (cs := #[.string (⟨#[]⟩ : ByteArray), .int .u64 0, .int .u64 0, .int .u64 0]) ?_ 0 _ rfl; refine pk ?_; exact BK589.out))⟩; have n2_ : Aside0 (Below w.heap.size w w166) := ⟨(by rw [hw]; exact (pb HB))⟩; clear hw; clear BK578; clear BK589; clear HB; have BK578 := n0_; have BK589 := n1_; have HB := n2_; clear n0_ n1_ n2_; have hcz167_0 := ce BK578 0; have hcz167_1 := ce BK578 1; have hcz167_2 := ce BK578 2; have hcz167_3 := ce BK578 3; have hfz167_0 := fz BK578 0; have hfz167_1 := fz BK578 1; have hfz167_2 := fz BK578 2; have hfz167_3 := fz BK578 3) | ((with_reducible refine gate_callee (f := 17) rfl ?_); refine gl (some 49) Try.func17 #[.agg #[.int .u64 a0_0, .int .u64 a0_1, .int .i64 a0_2, .slice A0_3 l0_3.length c0_3], .string a1, .int .u64 a2] ?_; (with_reducible refine (bottom_Add.calls kj3 a0_0 a0_1 a0_2 (fun k_ => k_ < w.heap.size) _ _ l0_3 a1 a2 t590 t591 t592 t593 t596 _ ?side1 A46.out).mono ?_); (case side1 => exact Kd.V_mk HC0_3.out (Kd.F_below (Kd.C_F k62_heap HR0_3.out) (pb HB))); rintro e w168 ⟨v594, rfl, ho0, hb⟩; refine ⟨_, rfl, ?_⟩; have n0_ := Aside0.mk (Kd.V_lower (Kd.V_mono (ok' := fun k_ => k_ ≠ gb578 ∧ k_ ≠ gb589) ho0 (fun k_ hk_ => ⟨Or.elim hk_ (fun hs_ => fun e_ => Nat.not_le.2 hs_ (by rw [e_]; exact GW578.out)) (fun hn_ => (Kd.freshB (g := gb578) (o := .cells #[.int .u64 a0_0, .int .u64 a0_1, .int .i64 a0_2, .slice A0_3 l0_3.length c0_3] 27 (0, 0)) (pk BK578.out) k_ hn_)), Or.elim hk_ (fun hs_ => fun e_ => Nat.not_le.2 hs_ (by rw [e_]; exact GW589.out)) (fun hn_ => (Kd.freshB (g := gb589) (o := .cells #[.string a1, .int .u64 t588, .int .u64 0, .int .u64 0] 60 (0, 0)) (pk BK589.out) k_ hn_))⟩)) (below_size (pb HB))); have n1_ := Aside0.mk (blk_below (pk BK578.out) hb); have n2_ := Aside0.mk (blk_below (pk BK589.out) hb); have n3_ := Aside0.mk (below_step (pb HB) hb); clear BK578; clear BK589; clear HB; have HO595 := n0_; have BK578 := n1_; have BK589 := n2_; have HB := n3_; clear n0_ n1_ n2_ n3_; (try clear hb); (try clear hb2); (try clear hk); (try clear hi); (try clear ho0)) | ((with_reducible refine gate_dst (N := 8) rfl ?_); (try (refine gate_guard (by rfl) ?_; dsimp only)); refine box_event ?hg (N := 8) ?hd (cs := #[.int .u64 0, .int .u64 0, .int .i64 0, .slice none 0 0]) (t := 27) ?hr ?_; (case hd => rfl); (case hg => rfl); (case hr => first | (go_simp; done) | (go_simp; rfl)); intro gb597 hg w169 hbox hb; have n0_ := Aside0.mk (Kd.V_below (Kd.V_elderB (pv HO595.out) gb597 (Nat.le_of_eq hg.symm)) hb); have n1_ := Aside0.mk (blk_below (pk BK578.out) hb); have n2_ := Aside0.mk (blk_below (pk BK589.out) hb); have n3_ := Aside0.mk (below_step (pb HB) hb); have n4_ := Aside0.mk (hbox); have n5_ := Aside0.mk ((pg hg HB : w.heap.size ≤ gb597)); have n6_ := Aside0.mk ((pg hg HB : w.heap.size ≤ gb597)); have n7_ := Aside0.mk ((pl hg (pk BK578.out) : gb578 ≠ gb597)); have n8_ := Aside0.mk ((pl' hg (pk BK578.out) : gb597 ≠ gb578)); have n9_ := Aside0.mk ((pl hg (pk BK589.out) : gb589 ≠ gb597)); have n10_ := Aside0.mk ((pl' hg (pk BK589.out) : gb597 ≠ gb589)); clear HO595; clear BK578; clear BK589; clear HB; have HO595 := n0_; have BK578 := n1_; have BK589 := n2_; have HB := n3_; have BK597 := n4_; have GW597 := n5_; have GE597 := n6_; have NB578_597 := n7_; have NB597_578 := n8_; have NB589_597 := n9_; have NB597_589 := n10_; clear n0_ n1_ n2_ n3_ n4_ n5_ n6_ n7_ n8_ n9_ n10_; clear hb hbox hg; have hnb170 := NB597_578.out; have hnc170 := NB578_597.out; have hnb171 := NB597_589.out; have hnc171 := NB589_597.out; have hcz172_0 := ce BK597 0; have hcz172_1 := ce BK597 1; have hcz172_2 := ce BK597 2; have hcz172_3 := ce BK597 3; have hfz172_0 := fz BK597 0; have hfz172_1 := fz BK597 1; have hfz172_2 := fz BK597 2; have hfz172_3 := fz BK597 3; obtain ⟨Ao173, co173, eo173⟩ := Kd.V_slice HO595.out; subst eo173))
        have n0_ : Aside0 (Kd.V k62 62 ((((w169.setCell ⟨gb597, 0, none⟩ (.int .u64 t590)).setCell ⟨gb597, 1, none⟩ (.int .u64 t591)).setCell ⟨gb597, 2, none⟩ (.int .i64 t592)).setCell ⟨gb597, 3, none⟩ (.slice Ao173 t593.length co173)) w.heap.size (fun k_ => k_ ≠ gb578 ∧ k_ ≠ gb589 ∧ k_ ≠ gb597) (.slice Ao173 t593.length co173) t593) := ⟨by refine pv ?_; exact Kd.V_mono (Kd.V_far (p := ⟨gb597, 3, none⟩) (Kd.V_far (p := ⟨gb597, 2, none⟩) (Kd.V_far (p := ⟨gb597, 1, none⟩) (Kd.V_far (p := ⟨gb597, 0, none⟩) (Kd.V_mono HO595.out (fun k_ hk => (⟨hk, hk.2⟩ : _ ∧ k_ ≠ gb597))) (fun _ hk => hk.2) (.int .u64 t590)) (fun _ hk => hk.2) (.int .u64 t591)) (fun _ hk => hk.2) (.int .i64 t592)) (fun _ hk => hk.2) (.slice Ao173 t593.length co173)) (fun _ hk => ⟨hk.1.1.1, ⟨hk.1.1.2, hk.1.2⟩⟩)⟩
        have n1_ : Aside0 (((((w169.setCell ⟨gb597, 0, none⟩ (.int .u64 t590)).setCell ⟨gb597, 1, none⟩ (.int .u64 t591)).setCell ⟨gb597, 2, none⟩ (.int .i64 t592)).setCell ⟨gb597, 3, none⟩ (.slice Ao173 t593.length co173)).heap[gb578]? = some (.cells #[.int .u64 a0_0, .int .u64 a0_1, .int .i64 a0_2, .slice A0_3 l0_3.length c0_3] 27 (0, 0))) := ⟨by refine pk ?_; refine blk_far ?_ NB578_597.out _; refine pk ?_; refine blk_far ?_ NB578_597.out _; refine pk ?_; refine blk_far ?_ NB578_597.out _; refine pk ?_; refine blk_far ?_ NB578_597.out _; refine pk ?_; exact BK578.out⟩
        have n2_ : Aside0 (((((w169.setCell ⟨gb597, 0, none⟩ (.int .u64 t590)).setCell ⟨gb597, 1, none⟩ (.int .u64 t591)).setCell ⟨gb597, 2, none⟩ (.int .i64 t592)).setCell ⟨gb597, 3, none⟩ (.slice Ao173 t593.length co173)).heap[gb589]? = some (.cells #[.string a1, .int .u64 t588, .int .u64 0, .int .u64 0] 60 (0, 0))) := ⟨by refine pk ?_; refine blk_far ?_ NB589_597.out _; refine pk ?_; refine blk_far ?_ NB589_597.out _; refine pk ?_; refine blk_far ?_ NB589_597.out _; refine pk ?_; refine blk_far ?_ NB589_597.out _; refine pk ?_; exact BK589.out⟩
        have n3_ : Aside0 (((((w169.setCell ⟨gb597, 0, none⟩ (.int .u64 t590)).setCell ⟨gb597, 1, none⟩ (.int .u64 t591)).setCell ⟨gb597, 2, none⟩ (.int .i64 t592)).setCell ⟨gb597, 3, none⟩ (.slice Ao173 t593.length co173)).heap[gb597]? = some (.cells #[.int .u64 t590, .int .u64 t591, .int .i64 t592, .slice Ao173 t593.length co173] 27 (0, 0))) := ⟨by refine pk ?_; refine blk_put (cs := #[.int .u64 t590, .int .u64 t591, .int .i64 t592, .slice none 0 0]) ?_ 3 _ rfl; refine pk ?_; refine blk_put (cs := #[.int .u64 t590, .int .u64 t591, .int .i64 0, .slice none 0 0]) ?_ 2 _ rfl; refine pk ?_; refine blk_put (cs := #[.int .u64 t590, .int .u64 0, .int .i64 0, .slice none 0 0]) ?_ 1 _ rfl; refine pk ?_; refine blk_put (cs := #[.int .u64 0, .int .u64 0, .int .i64 0, .slice none 0 0]) ?_ 0 _ rfl; refine pk ?_; exact BK597.out⟩
        have n4_ : Aside0 (Below w.heap.size w ((((w169.setCell ⟨gb597, 0, none⟩ (.int .u64 t590)).setCell ⟨gb597, 1, none⟩ (.int .u64 t591)).setCell ⟨gb597, 2, none⟩ (.int .i64 t592)).setCell ⟨gb597, 3, none⟩ (.slice Ao173 t593.length co173))) := ⟨pb HB⟩
        (try clear HO595)
        (try clear BK578)
        (try clear BK589)
        (try clear BK597)
        (try clear HB)
        generalize ((((w169.setCell ⟨gb597, 0, none⟩ (.int .u64 t590)).setCell ⟨gb597, 1, none⟩ (.int .u64 t591)).setCell ⟨gb597, 2, none⟩ (.int .i64 t592)).setCell ⟨gb597, 3, none⟩ (.slice Ao173 t593.length co173)) = w174 at n0_ n1_ n2_ n3_ n4_ ⊢
        have HO595 := n0_
        have BK578 := n1_
        have BK589 := n2_
        have BK597 := n3_
        have HB := n4_
        clear n0_ n1_ n2_ n3_ n4_
        replace HO595 := Aside0.mk (Kd.V_drew HO595.out)
        replace BK578 := Aside0.mk (blk_drew BK578.out)
        replace BK589 := Aside0.mk (blk_drew BK589.out)
        replace BK597 := Aside0.mk (blk_drew BK597.out)
        replace HB := Aside0.mk (below_drew1 HB.out)
        have p598 : 0 ≤ (a0_2 : Int) := of_decide_eq_true (by first | (with_reducible assumption) | assumption)
        have q598 : a0_2 < (l0_3.length : Int) := of_decide_eq_true (by first | (with_reducible assumption) | assumption)
        obtain ⟨ad598, e598, hx598_0, hx598_1, hx598_2, hx598_3⟩ := at_T62 HR0_3.out a0_2 p598 q598
        have hw598_3 := hx598_3
        have hw598_2 := hx598_2
        have hw598_1 := hx598_1
        have hw598_0 := hx598_0
        cases e598
        replace hx598_0 := (HB.out.cell (World.block_lt_of_cell? w _ hx598_0)).trans hx598_0
        replace hx598_1 := (HB.out.cell (World.block_lt_of_cell? w _ hx598_1)).trans hx598_1
        replace hx598_2 := (HB.out.cell (World.block_lt_of_cell? w _ hx598_2)).trans hx598_2
        replace hx598_3 := (HB.out.cell (World.block_lt_of_cell? w _ hx598_3)).trans hx598_3
        replace p598 := eq_true p598
        replace q598 := eq_true q598
        refine start_ (n := 9) (S := fun w' => w'.cell? ⟨gb578, 0, none⟩ = some (.int .u64 a0_0) ∧ w'.cell? ⟨gb578, 1, none⟩ = some (.int .u64 a0_1) ∧ w'.cell? ⟨gb578, 2, none⟩ = some (.int .i64 a0_2) ∧ w'.cell? ⟨gb578, 3, none⟩ = some (.slice (some ad598) l0_3.length c0_3) ∧ w'.cell? ⟨gb589, 0, none⟩ = some (.string a1) ∧ w'.cell? ⟨gb589, 1, none⟩ = some (.int .u64 t588) ∧ w'.cell? ⟨gb589, 2, none⟩ = some (.int .u64 0) ∧ w'.cell? ⟨gb589, 3, none⟩ = some (.int .u64 0) ∧ w'.cell? (ad598.add ((a0_2).toNat * 4)) = some (.string ((rd_T62 l0_3 a0_2).f0)) ∧ w'.cell? ⟨(ad598.add ((a0_2).toNat * 4)).block, (ad598.add ((a0_2).toNat * 4)).off + 1, none⟩ = some (.int .u64 ((rd_T62 l0_3 a0_2).f1)) ∧ w'.cell? ⟨(ad598.add ((a0_2).toNat * 4)).block, (ad598.add ((a0_2).toNat * 4)).off + 2, none⟩ = some (.int .u64 ((rd_T62 l0_3 a0_2).f2.f0)) ∧ w'.cell? ⟨(ad598.add ((a0_2).toNat * 4)).block, (ad598.add ((a0_2).toNat * 4)).off + 3, none⟩ = some (.int .u64 ((rd_T62 l0_3 a0_2).f2.f1))) (ds := []) #[false, false, false, false, false, false, false, false, false] (by kernel_rfl) rfl rfl ⟨ce BK578 0, ce BK578 1, ce BK578 2, ce BK578 3, ce BK589 0, ce BK589 1, ce BK589 2, ce BK589 3, ((HB.out.cell (World.block_lt_of_cell? w _ hw598_0)).trans hw598_0), ((HB.out.cell (World.block_lt_of_cell? w _ hw598_1)).trans hw598_1), ((HB.out.cell (World.block_lt_of_cell? w _ hw598_2)).trans hw598_2), ((HB.out.cell (World.block_lt_of_cell? w _ hw598_3)).trans hw598_3)⟩ (fun hHeld => ?_); refine with_tabW samphirelaw14_BottomLate.tab5 samphirelaw14_BottomLate.bits5 (fun HT_ HW_ => ?_)
        generalize w174.drew = w175 at HO595 BK578 BK589 BK597 HB hx598_0 hx598_1 hx598_2 hx598_3 hHeld ⊢
        refine pu 0 ?_
        refine pu 2 ?_
        refine ta 1 hHeld ?_
        refine ta 3 hHeld ?_
        refine pu 4 ?_
        refine ta 5 hHeld ?_
        refine ta 6 hHeld ?_
        refine on1 7 (fun K hK => ?_)
        refine gs Try.func23 #[.agg #[.string ((rd_T62 l0_3 a0_2).f0), .int .u64 ((rd_T62 l0_3 a0_2).f1), .int .u64 ((rd_T62 l0_3 a0_2).f2.f0), .int .u64 ((rd_T62 l0_3 a0_2).f2.f1)], .agg #[.string a1, .int .u64 t588, .int .u64 0, .int .u64 0]] ?_
        with_reducible refine (samphireref14_Ahead.calls ((rd_T62 l0_3 a0_2).f0) ((rd_T62 l0_3 a0_2).f1) ((rd_T62 l0_3 a0_2).f2.f0) ((rd_T62 l0_3 a0_2).f2.f1) a1 t588 0 0 false _ A49.out).mono ?_
        rintro e w176 ⟨rfl, hb⟩
        refine ⟨_, rfl, ?_⟩
        replace HO595 := Aside0.mk (Kd.V_below (pv HO595.out) hb)
        replace BK578 := Aside0.mk (blk_below (pk BK578.out) hb)
        replace BK589 := Aside0.mk (blk_below (pk BK589.out) hb)
        replace BK597 := Aside0.mk (blk_below (pk BK597.out) hb)
        replace HB := Aside0.mk (below_step (pb HB) hb)
        (try clear hb)
        (try clear hb2)
        (try clear hk)
        (try clear hi)
        refine hK.out _ _ ⟨ce BK578 0, ce BK578 1, ce BK578 2, ce BK578 3, ce BK589 0, ce BK589 1, ce BK589 2, ce BK589 3, ((HB.out.cell (World.block_lt_of_cell? w _ hw598_0)).trans hw598_0), ((HB.out.cell (World.block_lt_of_cell? w _ hw598_1)).trans hw598_1), ((HB.out.cell (World.block_lt_of_cell? w _ hw598_2)).trans hw598_2), ((HB.out.cell (World.block_lt_of_cell? w _ hw598_3)).trans hw598_3)⟩ (fun hHeld => ?_)
        clear hK K
        refine nm ?_
        refine pu 8 ?_
        refine done_ (done_of HT_.out (by kernel_rfl)) ?_
        try go_wp2
        replace HO595 := Aside0.mk (Kd.V_drew HO595.out)
        replace BK578 := Aside0.mk (blk_drew BK578.out)
        replace BK589 := Aside0.mk (blk_drew BK589.out)
        replace BK597 := Aside0.mk (blk_drew BK597.out)
        replace HB := Aside0.mk (below_drew1 HB.out)
        refine start_ (n := 30) (S := fun w' => True) (ds := []) #[false, false, false, false, false, false, false, false, false, false, false, false, false, false, false, false, false, false, false, false, false, false, false, false, false, false, false, false, false, false] (by kernel_rfl) rfl rfl trivial (fun hHeld => ?_); refine with_tabW samphirelaw14_BottomLate.tab6 samphirelaw14_BottomLate.bits6 (fun HT_ HW_ => ?_)
        generalize w176.drew = w177 at HO595 BK578 BK589 BK597 HB hHeld ⊢
        refine pu 0 ?_
        refine pu 1 ?_
        refine pu 2 ?_
        refine po 3 ?_
        refine po 4 ?_
        refine po 5 ?_
        refine po 6 ?_
        refine po 7 ?_
        refine po 8 ?_
        refine po 9 ?_
        refine po 10 ?_
        refine pu 11 ?_
        refine pu 12 ?_
        refine pu 13 ?_
        refine pu 14 ?_
        refine pu 15 ?_
        refine pu 16 ?_
        refine pu 17 ?_
        refine pu 18 ?_
        refine po 19 ?_
        refine po 20 ?_
        refine po 21 ?_
        refine po 22 ?_
        refine po 23 ?_
        refine pu 24 ?_
        refine pu 25 ?_
        refine pu 26 ?_
        refine on1 27 (fun K hK => ?_)
        refine gs Try.func11 #[] ?_
        with_reducible refine (samphirelaw14_awake.calls kj3  t616 hrT _ A160.out).mono ?_
        rintro e w178 ⟨rfl, hb⟩
        refine ⟨_, rfl, ?_⟩
        replace HO595 := Aside0.mk (Kd.V_below (pv HO595.out) hb)
        replace BK578 := Aside0.mk (blk_below (pk BK578.out) hb)
        replace BK589 := Aside0.mk (blk_below (pk BK589.out) hb)
        replace BK597 := Aside0.mk (blk_below (pk BK597.out) hb)
        replace HB := Aside0.mk (below_step (pb HB) hb)
        (try clear hb)
        (try clear hb2)
        (try clear hk)
        (try clear hi)
        refine hK.out _ _ trivial (fun hHeld => ?_)
        clear hK K
        refine nm ?_
        refine pu 28 ?_
        refine pu 29 ?_
        refine done_ (done_of HT_.out (by kernel_rfl)) ?_
        try go_wp2
        go_ret
        exact ⟨by first | rfl | (simp [errW_none, errW_some] <;> rfl) | (simp [*, errW_none, errW_some] <;> rfl), pb HB⟩
     ·rw [if_neg c48] at H
      exact absurd H (by simp)
    ·rw [if_neg c47] at H
     exact absurd H (by simp)

end Go.Proofs.Ytmfffbafldbihaa.H
