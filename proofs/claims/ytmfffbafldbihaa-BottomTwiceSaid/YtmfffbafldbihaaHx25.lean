-- laid by wip/hyb.py (the kit's printer with turns of ours)
import Derived.Test.YtmfffbafldbihaaHx0
import Derived.Test.YtmfffbafldbihaaHx6
import Derived.Test.YtmfffbafldbihaaHx7
import Derived.Test.YtmfffbafldbihaaHx10
import Derived.Test.YtmfffbafldbihaaHx13
import Derived.Test.YtmfffbafldbihaaHx14
import Derived.Test.YtmfffbafldbihaaHx15
namespace Go.Proofs.Ytmfffbafldbihaa.H
open Go.RowKit Go.Proofs.YtmfffbafldbihaaW.PrintWords Go.Proofs.YtmfffbafldbihaaW.PrintLast Go.Proofs.YtmfffbafldbihaaW.PrintMore Go.Proofs.YtmfffbafldbihaaW.Sq
attribute [local go_sem] max2_int min2_int max_two min_two max_three min_three max_four min_four   -- for this text's walks alone
set_option linter.unusedVariables false
set_option linter.unusedSimpArgs false

/-! ### samphirelaw14_BottomTwice: function 6 -/
def samphirelaw14_BottomTwice.j0 : Nat → ByteArray → Int → Int → Bool → Int → Int → Int → List (S62) → Option (Bool)
 | 0, _, _, _, _, _, _, _, _ => none
 | k + 1, x1, x2, x3, x44, x535000, x535001, x535002, x535003 => if x44 = true then ((samphirelaw14_awake.f k).bind fun t543 => (some t543)) else ((bottom_Add.f k x535000 x535001 x535002 x535003 x1 x2).bind fun bt544 => ((bottom_Add.f k bt544.1 bt544.2.1 bt544.2.2.1 bt544.2.2.2.1 x1 x3).bind fun bt552 => ((bottom_Add.f k x535000 x535001 x535002 x535003 x1 (IntKind.u64.wrap (x2 + x3))).bind fun bt560 => (if bt560.2.2.2.2 = 0 then (if bt544.2.2.2.2 = 0 then (if bt552.2.2.2.2 = 0 then ((samphirelaw14_ref.f k bt560.1 bt560.2.1 bt560.2.2.1 bt560.2.2.2.1).bind fun bt568 => ((samphirelaw14_same.f k bt552.1 bt552.2.1 bt552.2.2.1 bt552.2.2.2.1 bt568.1 bt568.2.1 bt568.2.2.1 bt568.2.2.2).bind fun t574 => (if t574 = true then ((samphirelaw14_awake.f k).bind fun t575 => (some t575)) else (some false)))) else (some false)) else (some false)) else (if bt544.2.2.2.2 = 12 then ((samphirelaw14_awake.f k).bind fun t576 => (some t576)) else (if bt552.2.2.2.2 = 12 then ((samphirelaw14_awake.f k).bind fun t577 => (some t577)) else (some false)))))))
def samphirelaw14_BottomTwice.f (k : Nat) (a0_0 : Int) (a0_1 : Int) (a0_2 : Int) (l0_3 : List (S62)) (a1 : ByteArray) (a2 : Int) (a3 : Int) : Option (Bool) := (samphirelaw14_ref.f k a0_0 a0_1 a0_2 l0_3).bind fun bt535 => ((samphireref14_Small.f k bt535.1 bt535.2.1 bt535.2.2.1 bt535.2.2.2).bind fun t541 => (if t541 = true then ((bottom_Right.f k a0_0 a0_1 a0_2 l0_3).bind fun t542 => (if t542 = true then (if (a1.size : Int) > 64 then (samphirelaw14_BottomTwice.j0 k a1 a2 a3 true a0_0 a0_1 a0_2 l0_3) else (if a2 = 0 then (samphirelaw14_BottomTwice.j0 k a1 a2 a3 true a0_0 a0_1 a0_2 l0_3) else (if a3 = 0 then (samphirelaw14_BottomTwice.j0 k a1 a2 a3 true a0_0 a0_1 a0_2 l0_3) else (if a2 ≥ 9223372036854775808 then (samphirelaw14_BottomTwice.j0 k a1 a2 a3 true a0_0 a0_1 a0_2 l0_3) else (samphirelaw14_BottomTwice.j0 k a1 a2 a3 (decide (a3 ≥ 9223372036854775808)) a0_0 a0_1 a0_2 l0_3))))) else (samphirelaw14_BottomTwice.j0 k a1 a2 a3 true a0_0 a0_1 a0_2 l0_3))) else (samphirelaw14_BottomTwice.j0 k a1 a2 a3 true a0_0 a0_1 a0_2 l0_3)))
theorem samphirelaw14_BottomTwice.mono_l : ∀ k, (∀ y0 y1 y2 y3 y4 y5 y6 y7, LeO (samphirelaw14_BottomTwice.j0 k y0 y1 y2 y3 y4 y5 y6 y7) (samphirelaw14_BottomTwice.j0 (k + 1) y0 y1 y2 y3 y4 y5 y6 y7))
 | 0 => fun _ _ _ _ _ _ _ _ r h => by simp [samphirelaw14_BottomTwice.j0] at h
 | k + 1 => by
  have ih0 := samphirelaw14_BottomTwice.mono_l k
  ·intro y0 y1 y2 y3 y4 y5 y6 y7
   unfold samphirelaw14_BottomTwice.j0
   repeat' first
   | (with_reducible exact ih0 _ _ _ _ _ _ _ _)
   | (with_reducible exact bottom_Add.mono _ _ _ _ _ _ _)
   | (with_reducible exact bottom_Right.mono _ _ _ _ _)
   | (with_reducible exact samphirelaw14_awake.mono _)
   | (with_reducible exact samphirelaw14_ref.mono _ _ _ _ _)
   | (with_reducible exact samphirelaw14_same.mono _ _ _ _ _ _ _ _ _)
   | (with_reducible exact samphireref14_Small.mono _ _ _ _ _)
   | (with_reducible exact LeO.refl _)
   | (with_reducible exact LeO.none _)
   | (with_reducible refine LeO.ite ?_ ?_)
   | (with_reducible refine LeO.bind ?_ (fun _ => ?_))
   | exact ih0 _ _ _ _ _ _ _ _
   | exact bottom_Add.mono _ _ _ _ _ _ _
   | exact bottom_Right.mono _ _ _ _ _
   | exact samphirelaw14_awake.mono _
   | exact samphirelaw14_ref.mono _ _ _ _ _
   | exact samphirelaw14_same.mono _ _ _ _ _ _ _ _ _
   | exact samphireref14_Small.mono _ _ _ _ _
   | exact LeO.none _
   | refine LeO.ite ?_ ?_
   | refine LeO.bind ?_ (fun _ => ?_)
theorem samphirelaw14_BottomTwice.mono : ∀ a0 a1 a2 a3 a4 a5 a6 k, LeO (samphirelaw14_BottomTwice.f k a0 a1 a2 a3 a4 a5 a6) (samphirelaw14_BottomTwice.f (k + 1) a0 a1 a2 a3 a4 a5 a6) := by
 intro a0 a1 a2 a3 a4 a5 a6 k
 have ih0 := samphirelaw14_BottomTwice.mono_l k
 unfold samphirelaw14_BottomTwice.f
 repeat' first
   | (with_reducible exact ih0 _ _ _ _ _ _ _ _)
   | (with_reducible exact bottom_Add.mono _ _ _ _ _ _ _)
   | (with_reducible exact bottom_Right.mono _ _ _ _ _)
   | (with_reducible exact samphirelaw14_awake.mono _)
   | (with_reducible exact samphirelaw14_ref.mono _ _ _ _ _)
   | (with_reducible exact samphirelaw14_same.mono _ _ _ _ _ _ _ _ _)
   | (with_reducible exact samphireref14_Small.mono _ _ _ _ _)
   | (with_reducible exact LeO.refl _)
   | (with_reducible exact LeO.none _)
   | (with_reducible refine LeO.ite ?_ ?_)
   | (with_reducible refine LeO.bind ?_ (fun _ => ?_))
   | exact ih0 _ _ _ _ _ _ _ _
   | exact bottom_Add.mono _ _ _ _ _ _ _
   | exact bottom_Right.mono _ _ _ _ _
   | exact samphirelaw14_awake.mono _
   | exact samphirelaw14_ref.mono _ _ _ _ _
   | exact samphirelaw14_same.mono _ _ _ _ _ _ _ _ _
   | exact samphireref14_Small.mono _ _ _ _ _
   | exact LeO.none _
   | refine LeO.ite ?_ ?_
   | refine LeO.bind ?_ (fun _ => ?_)
def samphirelaw14_BottomTwice.T8 : Bool × List (List Nat × List Nat) := (true, [([], []), ([0], [0]), ([1], [1]), ([2], [2]), ([3, 2], [2, 3]), ([2, 4], [2, 4]), ([5, 2], [5]), ([6], [6]), ([6], [6]), ([8, 6, 6], [6, 8]), ([7, 9, 9, 6], [6, 7, 9]), ([6, 10], [6, 10]), ([11, 10], [11]), ([12, 12], [12]), ([12, 13], [12, 13]), ([14, 13, 0, 1, 2, 3, 4, 5, 6, 7, 8, 9, 10, 11, 12, 13, 14], [14])])
def samphirelaw14_BottomTwice.B8 : List Nat := [0, 1, 3, 7, 15, 31, 63, 127, 127, 383, 1023, 2047, 4095, 8191, 16383, 32767]
theorem samphirelaw14_BottomTwice.tab8 : rtab .any (opsOf Try.f6 8) = samphirelaw14_BottomTwice.T8 := by kernel_rfl
theorem samphirelaw14_BottomTwice.bits8 : waitsOk samphirelaw14_BottomTwice.T8.2 samphirelaw14_BottomTwice.B8 = true := by kernel_rfl
set_option maxHeartbeats 8000000 in
set_option maxRecDepth 100000 in
theorem samphirelaw14_BottomTwice.calls (k : Nat) (a0_0 : Int) (a0_1 : Int) (a0_2 : Int) (A0_3 : Option Addr) (c0_3 : Nat) (l0_3 : List (S62)) (a1 : ByteArray) (a2 : Int) (a3 : Int) (r : Bool) (hrT : Aside0 (r = true)) (w : World) (hr0_3 : Kd.C k62 w A0_3 l0_3.length l0_3) (hc0_3 : l0_3.length ≤ c0_3) (h : samphirelaw14_BottomTwice.f k a0_0 a0_1 a0_2 l0_3 a1 a2 a3 = some r) :
  Calls Try.prog 6 #[.agg #[.int .u64 a0_0, .int .u64 a0_1, .int .i64 a0_2, .slice A0_3 l0_3.length c0_3], .string a1, .int .u64 a2, .int .u64 a3] w fun e w' => e = .returned (.bool r) ∧ Below w.heap.size w w' := by
 have hu27 := Try.underlying27
 have HR0_3 := Aside0.mk hr0_3
 have HC0_3 := Aside0.mk hc0_3
 clear hr0_3 hc0_3
 have HB := Aside0.mk (Below.refl w.heap.size w)
 have H : ((samphirelaw14_ref.f k a0_0 a0_1 a0_2 l0_3).bind fun bt535 => ((samphireref14_Small.f k bt535.1 bt535.2.1 bt535.2.2.1 bt535.2.2.2).bind fun t541 => (if t541 = true then ((bottom_Right.f k a0_0 a0_1 a0_2 l0_3).bind fun t542 => (if t542 = true then (if (a1.size : Int) > 64 then (samphirelaw14_BottomTwice.j0 k a1 a2 a3 true a0_0 a0_1 a0_2 l0_3) else (if a2 = 0 then (samphirelaw14_BottomTwice.j0 k a1 a2 a3 true a0_0 a0_1 a0_2 l0_3) else (if a3 = 0 then (samphirelaw14_BottomTwice.j0 k a1 a2 a3 true a0_0 a0_1 a0_2 l0_3) else (if a2 ≥ 9223372036854775808 then (samphirelaw14_BottomTwice.j0 k a1 a2 a3 true a0_0 a0_1 a0_2 l0_3) else (samphirelaw14_BottomTwice.j0 k a1 a2 a3 (decide (a3 ≥ 9223372036854775808)) a0_0 a0_1 a0_2 l0_3))))) else (samphirelaw14_BottomTwice.j0 k a1 a2 a3 true a0_0 a0_1 a0_2 l0_3))) else (samphirelaw14_BottomTwice.j0 k a1 a2 a3 true a0_0 a0_1 a0_2 l0_3)))) = some r := h
 clear h
 have HC5 := Aside0.mk H
 clear H
 go_enter Try.func6, Try.ntmps6
 go_upto_region 1 with (first | ((with_reducible refine gate_dst (N := 4) rfl ?_); (try (refine gate_guard (by rfl) ?_; dsimp only)); refine box_event ?hg (N := 4) ?hd (cs := #[.int .u64 a0_0, .int .u64 a0_1, .int .i64 a0_2, .slice A0_3 l0_3.length c0_3]) (t := 27) ?hr ?_; (case hd => rfl); (case hg => rfl); (case hr => first | (go_simp; done) | (go_simp; rfl)); intro gb534 hg w6 hbox hb; have n0_ := Aside0.mk (below_step (pb HB) hb); have n1_ := Aside0.mk (hbox); have n2_ := Aside0.mk ((pg hg HB : w.heap.size ≤ gb534)); have n3_ := Aside0.mk ((pg hg HB : w.heap.size ≤ gb534)); clear HB; have HB := n0_; have BK534 := n1_; have GW534 := n2_; have GE534 := n3_; clear n0_ n1_ n2_ n3_; clear hb hbox hg))
 (try simp only [Act.put, List.setIfInBounds_toArray, List.set_cons_zero, List.set_cons_succ])
 go_cut [44] (fun v44 wc => ∃ (kq : Nat) (x44_4 : Bool), v44 = .bool x44_4 ∧ Aside0 (samphirelaw14_BottomTwice.j0 kq a1 a2 a3 x44_4 a0_0 a0_1 a0_2 l0_3 = some r) ∧ Aside0 (kq ≤ k) ∧ Aside0 (wc.heap[gb534]? = some (.cells #[.int .u64 a0_0, .int .u64 a0_1, .int .i64 a0_2, (.slice A0_3 l0_3.length c0_3)] 27 (0, 0))) ∧ Aside0 (Below w.heap.size w wc))
 case first =>
  have H := HC5.out
  clear HC5
  replace H := Option.bind_eq_some_iff.mp H
  obtain ⟨⟨t535, t536, t537, t538⟩, A70, H⟩ := H
  replace H : ((samphireref14_Small.f k t535 t536 t537 t538).bind fun t541 => (if t541 = true then ((bottom_Right.f k a0_0 a0_1 a0_2 l0_3).bind fun t542 => (if t542 = true then (if (a1.size : Int) > 64 then (samphirelaw14_BottomTwice.j0 k a1 a2 a3 true a0_0 a0_1 a0_2 l0_3) else (if a2 = 0 then (samphirelaw14_BottomTwice.j0 k a1 a2 a3 true a0_0 a0_1 a0_2 l0_3) else (if a3 = 0 then (samphirelaw14_BottomTwice.j0 k a1 a2 a3 true a0_0 a0_1 a0_2 l0_3) else (if a2 ≥ 9223372036854775808 then (samphirelaw14_BottomTwice.j0 k a1 a2 a3 true a0_0 a0_1 a0_2 l0_3) else (samphirelaw14_BottomTwice.j0 k a1 a2 a3 (decide (a3 ≥ 9223372036854775808)) a0_0 a0_1 a0_2 l0_3))))) else (samphirelaw14_BottomTwice.j0 k a1 a2 a3 true a0_0 a0_1 a0_2 l0_3))) else (samphirelaw14_BottomTwice.j0 k a1 a2 a3 true a0_0 a0_1 a0_2 l0_3))) = some r := H
  have A7 := Aside0.mk A70
  clear A70
  replace H := Option.bind_eq_some_iff.mp H
  obtain ⟨t541, A80, H⟩ := H
  replace H : (if t541 = true then ((bottom_Right.f k a0_0 a0_1 a0_2 l0_3).bind fun t542 => (if t542 = true then (if (a1.size : Int) > 64 then (samphirelaw14_BottomTwice.j0 k a1 a2 a3 true a0_0 a0_1 a0_2 l0_3) else (if a2 = 0 then (samphirelaw14_BottomTwice.j0 k a1 a2 a3 true a0_0 a0_1 a0_2 l0_3) else (if a3 = 0 then (samphirelaw14_BottomTwice.j0 k a1 a2 a3 true a0_0 a0_1 a0_2 l0_3) else (if a2 ≥ 9223372036854775808 then (samphirelaw14_BottomTwice.j0 k a1 a2 a3 true a0_0 a0_1 a0_2 l0_3) else (samphirelaw14_BottomTwice.j0 k a1 a2 a3 (decide (a3 ≥ 9223372036854775808)) a0_0 a0_1 a0_2 l0_3))))) else (samphirelaw14_BottomTwice.j0 k a1 a2 a3 true a0_0 a0_1 a0_2 l0_3))) else (samphirelaw14_BottomTwice.j0 k a1 a2 a3 true a0_0 a0_1 a0_2 l0_3)) = some r := H
  have A8 := Aside0.mk A80
  clear A80
  by_cases c9 : t541 = true
  ·subst c9
   have H1 : ((bottom_Right.f k a0_0 a0_1 a0_2 l0_3).bind fun t542 => (if t542 = true then (if (a1.size : Int) > 64 then (samphirelaw14_BottomTwice.j0 k a1 a2 a3 true a0_0 a0_1 a0_2 l0_3) else (if a2 = 0 then (samphirelaw14_BottomTwice.j0 k a1 a2 a3 true a0_0 a0_1 a0_2 l0_3) else (if a3 = 0 then (samphirelaw14_BottomTwice.j0 k a1 a2 a3 true a0_0 a0_1 a0_2 l0_3) else (if a2 ≥ 9223372036854775808 then (samphirelaw14_BottomTwice.j0 k a1 a2 a3 true a0_0 a0_1 a0_2 l0_3) else (samphirelaw14_BottomTwice.j0 k a1 a2 a3 (decide (a3 ≥ 9223372036854775808)) a0_0 a0_1 a0_2 l0_3))))) else (samphirelaw14_BottomTwice.j0 k a1 a2 a3 true a0_0 a0_1 a0_2 l0_3))) = some r := by rw [if_pos rfl] at H; exact H
   clear H
   have H := H1
   clear H1
   replace H := Option.bind_eq_some_iff.mp H
   obtain ⟨t542, A100, H⟩ := H
   replace H : (if t542 = true then (if (a1.size : Int) > 64 then (samphirelaw14_BottomTwice.j0 k a1 a2 a3 true a0_0 a0_1 a0_2 l0_3) else (if a2 = 0 then (samphirelaw14_BottomTwice.j0 k a1 a2 a3 true a0_0 a0_1 a0_2 l0_3) else (if a3 = 0 then (samphirelaw14_BottomTwice.j0 k a1 a2 a3 true a0_0 a0_1 a0_2 l0_3) else (if a2 ≥ 9223372036854775808 then (samphirelaw14_BottomTwice.j0 k a1 a2 a3 true a0_0 a0_1 a0_2 l0_3) else (samphirelaw14_BottomTwice.j0 k a1 a2 a3 (decide (a3 ≥ 9223372036854775808)) a0_0 a0_1 a0_2 l0_3))))) else (samphirelaw14_BottomTwice.j0 k a1 a2 a3 true a0_0 a0_1 a0_2 l0_3)) = some r := H
   have A10 := Aside0.mk A100
   clear A100
   by_cases c11 : t542 = true
   ·subst c11
    have H1 : (if (a1.size : Int) > 64 then (samphirelaw14_BottomTwice.j0 k a1 a2 a3 true a0_0 a0_1 a0_2 l0_3) else (if a2 = 0 then (samphirelaw14_BottomTwice.j0 k a1 a2 a3 true a0_0 a0_1 a0_2 l0_3) else (if a3 = 0 then (samphirelaw14_BottomTwice.j0 k a1 a2 a3 true a0_0 a0_1 a0_2 l0_3) else (if a2 ≥ 9223372036854775808 then (samphirelaw14_BottomTwice.j0 k a1 a2 a3 true a0_0 a0_1 a0_2 l0_3) else (samphirelaw14_BottomTwice.j0 k a1 a2 a3 (decide (a3 ≥ 9223372036854775808)) a0_0 a0_1 a0_2 l0_3))))) = some r := by rw [if_pos rfl] at H; exact H
    clear H
    have H := H1
    clear H1
    by_cases c12 : (a1.size : Int) > 64
    ·rw [if_pos c12] at H
     have c12b0 : decide (64 < (a1.size : Int)) = true := decide_eq_true c12
     have c12b1 : decide (64 < a1.size) = true := decide_eq_true (by omega)
     clear c12
     (first | rw [c12b0] | (simp only [i64_w, i32_w]; rw [c12b0]) | skip)
     have H' := Aside0.mk H
     clear H
     have hcz13_0 := ce BK534 0
     have hcz13_1 := ce BK534 1
     have hcz13_2 := ce BK534 2
     have hcz13_3 := ce BK534 3
     have hfz13_0 := fz BK534 0
     have hfz13_1 := fz BK534 1
     have hfz13_2 := fz BK534 2
     have hfz13_3 := fz BK534 3
     go_wp2_with (first | ((with_reducible refine gate_callee (f := 9) rfl ?_); refine gl (some 16) Try.func9 #[.agg #[.int .u64 a0_0, .int .u64 a0_1, .int .i64 a0_2, .slice A0_3 l0_3.length c0_3]] ?_; (with_reducible refine (samphirelaw14_ref.calls k a0_0 a0_1 a0_2 _ _ l0_3 t535 t536 t537 t538 _ ?side1 ?side2 A7.out).mono ?_); (case side1 => repeat (first | exact (Kd.C_below HR0_3.out HB.out) | (with_reducible refine Kd.C_alloc ?_ _) | (with_reducible refine Kd.C_drewN ?_ _) | (with_reducible refine Kd.C_drew ?_))); (case side2 => exact HC0_3.out); rintro e w14 ⟨v539, rfl, ho0, hb⟩; refine ⟨_, rfl, ?_⟩; have n0_ := Aside0.mk (Kd.R_lower ho0 (below_size (pb HB))); have n1_ := Aside0.mk (blk_below (pk BK534.out) hb); have n2_ := Aside0.mk (below_step (pb HB) hb); clear BK534; clear HB; have HO540 := n0_; have BK534 := n1_; have HB := n2_; clear n0_ n1_ n2_; (try clear hb); (try clear hb2); (try clear hk); (try clear hi); (try clear ho0); obtain ⟨Ao15, co15, eo15⟩ := Kd.R_slice HO540.out; subst eo15) | ((with_reducible refine gate_callee (f := 10) rfl ?_); refine gl (some 17) Try.func10 #[.agg #[.int .u64 t535, .int .u64 t536, .int .i64 t537, .slice Ao15 t538.length co15]] ?_; (with_reducible refine (samphireref14_Small.calls k t535 t536 t537 _ _ t538 true _ ?side1 ?side2 A8.out).mono ?_); (case side1 => repeat (first | exact (Kd.R_reads' HO540.out).2.2 | (with_reducible refine Kd.C_alloc ?_ _) | (with_reducible refine Kd.C_drewN ?_ _) | (with_reducible refine Kd.C_drew ?_))); (case side2 => exact (Kd.R_reads' HO540.out).2.1); rintro e w16 ⟨rfl, hb⟩; refine ⟨_, rfl, ?_⟩; replace HO540 := Aside0.mk (Kd.R_below (pr HO540.out) hb); replace BK534 := Aside0.mk (blk_below (pk BK534.out) hb); replace HB := Aside0.mk (below_step (pb HB) hb); (try clear hb); (try clear hb2); (try clear hk); (try clear hi); have hcz17_0 := ce BK534 0; have hcz17_1 := ce BK534 1; have hcz17_2 := ce BK534 2; have hcz17_3 := ce BK534 3; have hfz17_0 := fz BK534 0; have hfz17_1 := fz BK534 1; have hfz17_2 := fz BK534 2; have hfz17_3 := fz BK534 3) | (go_at_call 21; (with_reducible refine (bottom_Right.calls k a0_0 a0_1 a0_2 _ _ l0_3 true _ ?side1 ?side2 A10.out).mono ?_); (case side1 => repeat (first | exact (Kd.C_below HR0_3.out HB.out) | (with_reducible refine Kd.C_alloc ?_ _) | (with_reducible refine Kd.C_drewN ?_ _) | (with_reducible refine Kd.C_drew ?_))); (case side2 => exact HC0_3.out); rintro e w18 ⟨rfl, hb⟩; replace HO540 := Aside0.mk (Kd.R_below (pr HO540.out) hb); replace BK534 := Aside0.mk (blk_below (pk BK534.out) hb); replace HB := Aside0.mk (below_step (pb HB) hb); (try clear hb); (try clear hb2); (try clear hk); (try clear hi)))
     go_meet
     case rel => exact ⟨_, (true), (by first | rfl | (simp; done) | (simp [*]; done)), H', ⟨by first | omega | exact Nat.le_refl _⟩, ⟨pk BK534.out⟩, ⟨pb HB⟩⟩
    ·rw [if_neg c12] at H
     have c12b0 : decide (64 < (a1.size : Int)) = false := decide_eq_false c12
     have c12b1 : decide (64 < a1.size) = false := decide_eq_false (by omega)
     clear c12
     (first | rw [c12b0] | (simp only [i64_w, i32_w]; rw [c12b0]) | skip)
     by_cases c19 : a2 = 0
     ·rw [if_pos c19] at H
      have c19b0 : (a2 == 0) = true := beq_iff_eq.mpr c19
      have c19b1 : (a2 != 0) = false := bne_eq_false_iff_eq.mpr c19
      clear c19
      have H' := Aside0.mk H
      clear H
      have hcz20_0 := ce BK534 0
      have hcz20_1 := ce BK534 1
      have hcz20_2 := ce BK534 2
      have hcz20_3 := ce BK534 3
      have hfz20_0 := fz BK534 0
      have hfz20_1 := fz BK534 1
      have hfz20_2 := fz BK534 2
      have hfz20_3 := fz BK534 3
      go_wp2_with (first | ((with_reducible refine gate_callee (f := 9) rfl ?_); refine gl (some 16) Try.func9 #[.agg #[.int .u64 a0_0, .int .u64 a0_1, .int .i64 a0_2, .slice A0_3 l0_3.length c0_3]] ?_; (with_reducible refine (samphirelaw14_ref.calls k a0_0 a0_1 a0_2 _ _ l0_3 t535 t536 t537 t538 _ ?side1 ?side2 A7.out).mono ?_); (case side1 => repeat (first | exact (Kd.C_below HR0_3.out HB.out) | (with_reducible refine Kd.C_alloc ?_ _) | (with_reducible refine Kd.C_drewN ?_ _) | (with_reducible refine Kd.C_drew ?_))); (case side2 => exact HC0_3.out); rintro e w21 ⟨v539, rfl, ho0, hb⟩; refine ⟨_, rfl, ?_⟩; have n0_ := Aside0.mk (Kd.R_lower ho0 (below_size (pb HB))); have n1_ := Aside0.mk (blk_below (pk BK534.out) hb); have n2_ := Aside0.mk (below_step (pb HB) hb); clear BK534; clear HB; have HO540 := n0_; have BK534 := n1_; have HB := n2_; clear n0_ n1_ n2_; (try clear hb); (try clear hb2); (try clear hk); (try clear hi); (try clear ho0); obtain ⟨Ao22, co22, eo22⟩ := Kd.R_slice HO540.out; subst eo22) | ((with_reducible refine gate_callee (f := 10) rfl ?_); refine gl (some 17) Try.func10 #[.agg #[.int .u64 t535, .int .u64 t536, .int .i64 t537, .slice Ao22 t538.length co22]] ?_; (with_reducible refine (samphireref14_Small.calls k t535 t536 t537 _ _ t538 true _ ?side1 ?side2 A8.out).mono ?_); (case side1 => repeat (first | exact (Kd.R_reads' HO540.out).2.2 | (with_reducible refine Kd.C_alloc ?_ _) | (with_reducible refine Kd.C_drewN ?_ _) | (with_reducible refine Kd.C_drew ?_))); (case side2 => exact (Kd.R_reads' HO540.out).2.1); rintro e w23 ⟨rfl, hb⟩; refine ⟨_, rfl, ?_⟩; replace HO540 := Aside0.mk (Kd.R_below (pr HO540.out) hb); replace BK534 := Aside0.mk (blk_below (pk BK534.out) hb); replace HB := Aside0.mk (below_step (pb HB) hb); (try clear hb); (try clear hb2); (try clear hk); (try clear hi); have hcz24_0 := ce BK534 0; have hcz24_1 := ce BK534 1; have hcz24_2 := ce BK534 2; have hcz24_3 := ce BK534 3; have hfz24_0 := fz BK534 0; have hfz24_1 := fz BK534 1; have hfz24_2 := fz BK534 2; have hfz24_3 := fz BK534 3) | (go_at_call 21; (with_reducible refine (bottom_Right.calls k a0_0 a0_1 a0_2 _ _ l0_3 true _ ?side1 ?side2 A10.out).mono ?_); (case side1 => repeat (first | exact (Kd.C_below HR0_3.out HB.out) | (with_reducible refine Kd.C_alloc ?_ _) | (with_reducible refine Kd.C_drewN ?_ _) | (with_reducible refine Kd.C_drew ?_))); (case side2 => exact HC0_3.out); rintro e w25 ⟨rfl, hb⟩; replace HO540 := Aside0.mk (Kd.R_below (pr HO540.out) hb); replace BK534 := Aside0.mk (blk_below (pk BK534.out) hb); replace HB := Aside0.mk (below_step (pb HB) hb); (try clear hb); (try clear hb2); (try clear hk); (try clear hi)))
      go_meet
      case rel => exact ⟨_, (true), (by first | rfl | (simp; done) | (simp [*]; done)), H', ⟨by first | omega | exact Nat.le_refl _⟩, ⟨pk BK534.out⟩, ⟨pb HB⟩⟩
     ·rw [if_neg c19] at H
      have c19b0 : (a2 == 0) = false := beq_eq_false_iff_ne.mpr c19
      have c19b1 : (a2 != 0) = true := bne_iff_ne.mpr c19
      by_cases c26 : a3 = 0
      ·rw [if_pos c26] at H
       have c26b0 : (a3 == 0) = true := beq_iff_eq.mpr c26
       have c26b1 : (a3 != 0) = false := bne_eq_false_iff_eq.mpr c26
       clear c26
       have H' := Aside0.mk H
       clear H
       have hcz27_0 := ce BK534 0
       have hcz27_1 := ce BK534 1
       have hcz27_2 := ce BK534 2
       have hcz27_3 := ce BK534 3
       have hfz27_0 := fz BK534 0
       have hfz27_1 := fz BK534 1
       have hfz27_2 := fz BK534 2
       have hfz27_3 := fz BK534 3
       go_wp2_with (first | ((with_reducible refine gate_callee (f := 9) rfl ?_); refine gl (some 16) Try.func9 #[.agg #[.int .u64 a0_0, .int .u64 a0_1, .int .i64 a0_2, .slice A0_3 l0_3.length c0_3]] ?_; (with_reducible refine (samphirelaw14_ref.calls k a0_0 a0_1 a0_2 _ _ l0_3 t535 t536 t537 t538 _ ?side1 ?side2 A7.out).mono ?_); (case side1 => repeat (first | exact (Kd.C_below HR0_3.out HB.out) | (with_reducible refine Kd.C_alloc ?_ _) | (with_reducible refine Kd.C_drewN ?_ _) | (with_reducible refine Kd.C_drew ?_))); (case side2 => exact HC0_3.out); rintro e w28 ⟨v539, rfl, ho0, hb⟩; refine ⟨_, rfl, ?_⟩; have n0_ := Aside0.mk (Kd.R_lower ho0 (below_size (pb HB))); have n1_ := Aside0.mk (blk_below (pk BK534.out) hb); have n2_ := Aside0.mk (below_step (pb HB) hb); clear BK534; clear HB; have HO540 := n0_; have BK534 := n1_; have HB := n2_; clear n0_ n1_ n2_; (try clear hb); (try clear hb2); (try clear hk); (try clear hi); (try clear ho0); obtain ⟨Ao29, co29, eo29⟩ := Kd.R_slice HO540.out; subst eo29) | ((with_reducible refine gate_callee (f := 10) rfl ?_); refine gl (some 17) Try.func10 #[.agg #[.int .u64 t535, .int .u64 t536, .int .i64 t537, .slice Ao29 t538.length co29]] ?_; (with_reducible refine (samphireref14_Small.calls k t535 t536 t537 _ _ t538 true _ ?side1 ?side2 A8.out).mono ?_); (case side1 => repeat (first | exact (Kd.R_reads' HO540.out).2.2 | (with_reducible refine Kd.C_alloc ?_ _) | (with_reducible refine Kd.C_drewN ?_ _) | (with_reducible refine Kd.C_drew ?_))); (case side2 => exact (Kd.R_reads' HO540.out).2.1); rintro e w30 ⟨rfl, hb⟩; refine ⟨_, rfl, ?_⟩; replace HO540 := Aside0.mk (Kd.R_below (pr HO540.out) hb); replace BK534 := Aside0.mk (blk_below (pk BK534.out) hb); replace HB := Aside0.mk (below_step (pb HB) hb); (try clear hb); (try clear hb2); (try clear hk); (try clear hi); have hcz31_0 := ce BK534 0; have hcz31_1 := ce BK534 1; have hcz31_2 := ce BK534 2; have hcz31_3 := ce BK534 3; have hfz31_0 := fz BK534 0; have hfz31_1 := fz BK534 1; have hfz31_2 := fz BK534 2; have hfz31_3 := fz BK534 3) | (go_at_call 21; (with_reducible refine (bottom_Right.calls k a0_0 a0_1 a0_2 _ _ l0_3 true _ ?side1 ?side2 A10.out).mono ?_); (case side1 => repeat (first | exact (Kd.C_below HR0_3.out HB.out) | (with_reducible refine Kd.C_alloc ?_ _) | (with_reducible refine Kd.C_drewN ?_ _) | (with_reducible refine Kd.C_drew ?_))); (case side2 => exact HC0_3.out); rintro e w32 ⟨rfl, hb⟩; replace HO540 := Aside0.mk (Kd.R_below (pr HO540.out) hb); replace BK534 := Aside0.mk (blk_below (pk BK534.out) hb); replace HB := Aside0.mk (below_step (pb HB) hb); (try clear hb); (try clear hb2); (try clear hk); (try clear hi)))
       go_meet
       case rel => exact ⟨_, (true), (by first | rfl | (simp; done) | (simp [*]; done)), H', ⟨by first | omega | exact Nat.le_refl _⟩, ⟨pk BK534.out⟩, ⟨pb HB⟩⟩
      ·rw [if_neg c26] at H
       have c26b0 : (a3 == 0) = false := beq_eq_false_iff_ne.mpr c26
       have c26b1 : (a3 != 0) = true := bne_iff_ne.mpr c26
       by_cases c33 : a2 ≥ 9223372036854775808
       ·rw [if_pos c33] at H
        have c33b0 : decide (9223372036854775808 ≤ a2) = true := decide_eq_true c33
        clear c33
        have H' := Aside0.mk H
        clear H
        have hcz34_0 := ce BK534 0
        have hcz34_1 := ce BK534 1
        have hcz34_2 := ce BK534 2
        have hcz34_3 := ce BK534 3
        have hfz34_0 := fz BK534 0
        have hfz34_1 := fz BK534 1
        have hfz34_2 := fz BK534 2
        have hfz34_3 := fz BK534 3
        go_wp2_with (first | ((with_reducible refine gate_callee (f := 9) rfl ?_); refine gl (some 16) Try.func9 #[.agg #[.int .u64 a0_0, .int .u64 a0_1, .int .i64 a0_2, .slice A0_3 l0_3.length c0_3]] ?_; (with_reducible refine (samphirelaw14_ref.calls k a0_0 a0_1 a0_2 _ _ l0_3 t535 t536 t537 t538 _ ?side1 ?side2 A7.out).mono ?_); (case side1 => repeat (first | exact (Kd.C_below HR0_3.out HB.out) | (with_reducible refine Kd.C_alloc ?_ _) | (with_reducible refine Kd.C_drewN ?_ _) | (with_reducible refine Kd.C_drew ?_))); (case side2 => exact HC0_3.out); rintro e w35 ⟨v539, rfl, ho0, hb⟩; refine ⟨_, rfl, ?_⟩; have n0_ := Aside0.mk (Kd.R_lower ho0 (below_size (pb HB))); have n1_ := Aside0.mk (blk_below (pk BK534.out) hb); have n2_ := Aside0.mk (below_step (pb HB) hb); clear BK534; clear HB; have HO540 := n0_; have BK534 := n1_; have HB := n2_; clear n0_ n1_ n2_; (try clear hb); (try clear hb2); (try clear hk); (try clear hi); (try clear ho0); obtain ⟨Ao36, co36, eo36⟩ := Kd.R_slice HO540.out; subst eo36) | ((with_reducible refine gate_callee (f := 10) rfl ?_); refine gl (some 17) Try.func10 #[.agg #[.int .u64 t535, .int .u64 t536, .int .i64 t537, .slice Ao36 t538.length co36]] ?_; (with_reducible refine (samphireref14_Small.calls k t535 t536 t537 _ _ t538 true _ ?side1 ?side2 A8.out).mono ?_); (case side1 => repeat (first | exact (Kd.R_reads' HO540.out).2.2 | (with_reducible refine Kd.C_alloc ?_ _) | (with_reducible refine Kd.C_drewN ?_ _) | (with_reducible refine Kd.C_drew ?_))); (case side2 => exact (Kd.R_reads' HO540.out).2.1); rintro e w37 ⟨rfl, hb⟩; refine ⟨_, rfl, ?_⟩; replace HO540 := Aside0.mk (Kd.R_below (pr HO540.out) hb); replace BK534 := Aside0.mk (blk_below (pk BK534.out) hb); replace HB := Aside0.mk (below_step (pb HB) hb); (try clear hb); (try clear hb2); (try clear hk); (try clear hi); have hcz38_0 := ce BK534 0; have hcz38_1 := ce BK534 1; have hcz38_2 := ce BK534 2; have hcz38_3 := ce BK534 3; have hfz38_0 := fz BK534 0; have hfz38_1 := fz BK534 1; have hfz38_2 := fz BK534 2; have hfz38_3 := fz BK534 3) | (go_at_call 21; (with_reducible refine (bottom_Right.calls k a0_0 a0_1 a0_2 _ _ l0_3 true _ ?side1 ?side2 A10.out).mono ?_); (case side1 => repeat (first | exact (Kd.C_below HR0_3.out HB.out) | (with_reducible refine Kd.C_alloc ?_ _) | (with_reducible refine Kd.C_drewN ?_ _) | (with_reducible refine Kd.C_drew ?_))); (case side2 => exact HC0_3.out); rintro e w39 ⟨rfl, hb⟩; replace HO540 := Aside0.mk (Kd.R_below (pr HO540.out) hb); replace BK534 := Aside0.mk (blk_below (pk BK534.out) hb); replace HB := Aside0.mk (below_step (pb HB) hb); (try clear hb); (try clear hb2); (try clear hk); (try clear hi)))
        go_meet
        case rel => exact ⟨_, (true), (by first | rfl | (simp; done) | (simp [*]; done)), H', ⟨by first | omega | exact Nat.le_refl _⟩, ⟨pk BK534.out⟩, ⟨pb HB⟩⟩
       ·rw [if_neg c33] at H
        have c33b0 : decide (9223372036854775808 ≤ a2) = false := decide_eq_false c33
        clear c33
        have H' := Aside0.mk H
        clear H
        have hcz40_0 := ce BK534 0
        have hcz40_1 := ce BK534 1
        have hcz40_2 := ce BK534 2
        have hcz40_3 := ce BK534 3
        have hfz40_0 := fz BK534 0
        have hfz40_1 := fz BK534 1
        have hfz40_2 := fz BK534 2
        have hfz40_3 := fz BK534 3
        go_wp2_with (first | ((with_reducible refine gate_callee (f := 9) rfl ?_); refine gl (some 16) Try.func9 #[.agg #[.int .u64 a0_0, .int .u64 a0_1, .int .i64 a0_2, .slice A0_3 l0_3.length c0_3]] ?_; (with_reducible refine (samphirelaw14_ref.calls k a0_0 a0_1 a0_2 _ _ l0_3 t535 t536 t537 t538 _ ?side1 ?side2 A7.out).mono ?_); (case side1 => repeat (first | exact (Kd.C_below HR0_3.out HB.out) | (with_reducible refine Kd.C_alloc ?_ _) | (with_reducible refine Kd.C_drewN ?_ _) | (with_reducible refine Kd.C_drew ?_))); (case side2 => exact HC0_3.out); rintro e w41 ⟨v539, rfl, ho0, hb⟩; refine ⟨_, rfl, ?_⟩; have n0_ := Aside0.mk (Kd.R_lower ho0 (below_size (pb HB))); have n1_ := Aside0.mk (blk_below (pk BK534.out) hb); have n2_ := Aside0.mk (below_step (pb HB) hb); clear BK534; clear HB; have HO540 := n0_; have BK534 := n1_; have HB := n2_; clear n0_ n1_ n2_; (try clear hb); (try clear hb2); (try clear hk); (try clear hi); (try clear ho0); obtain ⟨Ao42, co42, eo42⟩ := Kd.R_slice HO540.out; subst eo42) | ((with_reducible refine gate_callee (f := 10) rfl ?_); refine gl (some 17) Try.func10 #[.agg #[.int .u64 t535, .int .u64 t536, .int .i64 t537, .slice Ao42 t538.length co42]] ?_; (with_reducible refine (samphireref14_Small.calls k t535 t536 t537 _ _ t538 true _ ?side1 ?side2 A8.out).mono ?_); (case side1 => repeat (first | exact (Kd.R_reads' HO540.out).2.2 | (with_reducible refine Kd.C_alloc ?_ _) | (with_reducible refine Kd.C_drewN ?_ _) | (with_reducible refine Kd.C_drew ?_))); (case side2 => exact (Kd.R_reads' HO540.out).2.1); rintro e w43 ⟨rfl, hb⟩; refine ⟨_, rfl, ?_⟩; replace HO540 := Aside0.mk (Kd.R_below (pr HO540.out) hb); replace BK534 := Aside0.mk (blk_below (pk BK534.out) hb); replace HB := Aside0.mk (below_step (pb HB) hb); (try clear hb); (try clear hb2); (try clear hk); (try clear hi); have hcz44_0 := ce BK534 0; have hcz44_1 := ce BK534 1; have hcz44_2 := ce BK534 2; have hcz44_3 := ce BK534 3; have hfz44_0 := fz BK534 0; have hfz44_1 := fz BK534 1; have hfz44_2 := fz BK534 2; have hfz44_3 := fz BK534 3) | (go_at_call 21; (with_reducible refine (bottom_Right.calls k a0_0 a0_1 a0_2 _ _ l0_3 true _ ?side1 ?side2 A10.out).mono ?_); (case side1 => repeat (first | exact (Kd.C_below HR0_3.out HB.out) | (with_reducible refine Kd.C_alloc ?_ _) | (with_reducible refine Kd.C_drewN ?_ _) | (with_reducible refine Kd.C_drew ?_))); (case side2 => exact HC0_3.out); rintro e w45 ⟨rfl, hb⟩; replace HO540 := Aside0.mk (Kd.R_below (pr HO540.out) hb); replace BK534 := Aside0.mk (blk_below (pk BK534.out) hb); replace HB := Aside0.mk (below_step (pb HB) hb); (try clear hb); (try clear hb2); (try clear hk); (try clear hi)))
        go_meet
        case rel => exact ⟨_, (decide (a3 ≥ 9223372036854775808)), (by first | rfl | (simp; done) | (simp [*]; done)), H', ⟨by first | omega | exact Nat.le_refl _⟩, ⟨pk BK534.out⟩, ⟨pb HB⟩⟩
   ·replace c11 := Bool.eq_false_iff.mpr c11
    subst c11
    have H1 : (samphirelaw14_BottomTwice.j0 k a1 a2 a3 true a0_0 a0_1 a0_2 l0_3) = some r := by rw [if_neg (show ¬ (false = true) by decide)] at H; exact H
    clear H
    have H := H1
    clear H1
    have H' := Aside0.mk H
    clear H
    have hcz46_0 := ce BK534 0
    have hcz46_1 := ce BK534 1
    have hcz46_2 := ce BK534 2
    have hcz46_3 := ce BK534 3
    have hfz46_0 := fz BK534 0
    have hfz46_1 := fz BK534 1
    have hfz46_2 := fz BK534 2
    have hfz46_3 := fz BK534 3
    go_wp2_with (first | ((with_reducible refine gate_callee (f := 9) rfl ?_); refine gl (some 16) Try.func9 #[.agg #[.int .u64 a0_0, .int .u64 a0_1, .int .i64 a0_2, .slice A0_3 l0_3.length c0_3]] ?_; (with_reducible refine (samphirelaw14_ref.calls k a0_0 a0_1 a0_2 _ _ l0_3 t535 t536 t537 t538 _ ?side1 ?side2 A7.out).mono ?_); (case side1 => repeat (first | exact (Kd.C_below HR0_3.out HB.out) | (with_reducible refine Kd.C_alloc ?_ _) | (with_reducible refine Kd.C_drewN ?_ _) | (with_reducible refine Kd.C_drew ?_))); (case side2 => exact HC0_3.out); rintro e w47 ⟨v539, rfl, ho0, hb⟩; refine ⟨_, rfl, ?_⟩; have n0_ := Aside0.mk (Kd.R_lower ho0 (below_size (pb HB))); have n1_ := Aside0.mk (blk_below (pk BK534.out) hb); have n2_ := Aside0.mk (below_step (pb HB) hb); clear BK534; clear HB; have HO540 := n0_; have BK534 := n1_; have HB := n2_; clear n0_ n1_ n2_; (try clear hb); (try clear hb2); (try clear hk); (try clear hi); (try clear ho0); obtain ⟨Ao48, co48, eo48⟩ := Kd.R_slice HO540.out; subst eo48) | ((with_reducible refine gate_callee (f := 10) rfl ?_); refine gl (some 17) Try.func10 #[.agg #[.int .u64 t535, .int .u64 t536, .int .i64 t537, .slice Ao48 t538.length co48]] ?_; (with_reducible refine (samphireref14_Small.calls k t535 t536 t537 _ _ t538 true _ ?side1 ?side2 A8.out).mono ?_); (case side1 => repeat (first | exact (Kd.R_reads' HO540.out).2.2 | (with_reducible refine Kd.C_alloc ?_ _) | (with_reducible refine Kd.C_drewN ?_ _) | (with_reducible refine Kd.C_drew ?_))); (case side2 => exact (Kd.R_reads' HO540.out).2.1); rintro e w49 ⟨rfl, hb⟩; refine ⟨_, rfl, ?_⟩; replace HO540 := Aside0.mk (Kd.R_below (pr HO540.out) hb); replace BK534 := Aside0.mk (blk_below (pk BK534.out) hb); replace HB := Aside0.mk (below_step (pb HB) hb); (try clear hb); (try clear hb2); (try clear hk); (try clear hi); have hcz50_0 := ce BK534 0; have hcz50_1 := ce BK534 1; have hcz50_2 := ce BK534 2; have hcz50_3 := ce BK534 3; have hfz50_0 := fz BK534 0; have hfz50_1 := fz BK534 1; have hfz50_2 := fz BK534 2; have hfz50_3 := fz BK534 3) | (go_at_call 21; (with_reducible refine (bottom_Right.calls k a0_0 a0_1 a0_2 _ _ l0_3 false _ ?side1 ?side2 A10.out).mono ?_); (case side1 => repeat (first | exact (Kd.C_below HR0_3.out HB.out) | (with_reducible refine Kd.C_alloc ?_ _) | (with_reducible refine Kd.C_drewN ?_ _) | (with_reducible refine Kd.C_drew ?_))); (case side2 => exact HC0_3.out); rintro e w51 ⟨rfl, hb⟩; replace HO540 := Aside0.mk (Kd.R_below (pr HO540.out) hb); replace BK534 := Aside0.mk (blk_below (pk BK534.out) hb); replace HB := Aside0.mk (below_step (pb HB) hb); (try clear hb); (try clear hb2); (try clear hk); (try clear hi)))
    go_meet
    case rel => exact ⟨_, (true), (by first | rfl | (simp; done) | (simp [*]; done)), H', ⟨by first | omega | exact Nat.le_refl _⟩, ⟨pk BK534.out⟩, ⟨pb HB⟩⟩
  ·replace c9 := Bool.eq_false_iff.mpr c9
   subst c9
   have H1 : (samphirelaw14_BottomTwice.j0 k a1 a2 a3 true a0_0 a0_1 a0_2 l0_3) = some r := by rw [if_neg (show ¬ (false = true) by decide)] at H; exact H
   clear H
   have H := H1
   clear H1
   have H' := Aside0.mk H
   clear H
   have hcz52_0 := ce BK534 0
   have hcz52_1 := ce BK534 1
   have hcz52_2 := ce BK534 2
   have hcz52_3 := ce BK534 3
   have hfz52_0 := fz BK534 0
   have hfz52_1 := fz BK534 1
   have hfz52_2 := fz BK534 2
   have hfz52_3 := fz BK534 3
   go_wp2_with (first | ((with_reducible refine gate_callee (f := 9) rfl ?_); refine gl (some 16) Try.func9 #[.agg #[.int .u64 a0_0, .int .u64 a0_1, .int .i64 a0_2, .slice A0_3 l0_3.length c0_3]] ?_; (with_reducible refine (samphirelaw14_ref.calls k a0_0 a0_1 a0_2 _ _ l0_3 t535 t536 t537 t538 _ ?side1 ?side2 A7.out).mono ?_); (case side1 => repeat (first | exact (Kd.C_below HR0_3.out HB.out) | (with_reducible refine Kd.C_alloc ?_ _) | (with_reducible refine Kd.C_drewN ?_ _) | (with_reducible refine Kd.C_drew ?_))); (case side2 => exact HC0_3.out); rintro e w53 ⟨v539, rfl, ho0, hb⟩; refine ⟨_, rfl, ?_⟩; have n0_ := Aside0.mk (Kd.R_lower ho0 (below_size (pb HB))); have n1_ := Aside0.mk (blk_below (pk BK534.out) hb); have n2_ := Aside0.mk (below_step (pb HB) hb); clear BK534; clear HB; have HO540 := n0_; have BK534 := n1_; have HB := n2_; clear n0_ n1_ n2_; (try clear hb); (try clear hb2); (try clear hk); (try clear hi); (try clear ho0); obtain ⟨Ao54, co54, eo54⟩ := Kd.R_slice HO540.out; subst eo54) | ((with_reducible refine gate_callee (f := 10) rfl ?_); refine gl (some 17) Try.func10 #[.agg #[.int .u64 t535, .int .u64 t536, .int .i64 t537, .slice Ao54 t538.length co54]] ?_; (with_reducible refine (samphireref14_Small.calls k t535 t536 t537 _ _ t538 false _ ?side1 ?side2 A8.out).mono ?_); (case side1 => repeat (first | exact (Kd.R_reads' HO540.out).2.2 | (with_reducible refine Kd.C_alloc ?_ _) | (with_reducible refine Kd.C_drewN ?_ _) | (with_reducible refine Kd.C_drew ?_))); (case side2 => exact (Kd.R_reads' HO540.out).2.1); rintro e w55 ⟨rfl, hb⟩; refine ⟨_, rfl, ?_⟩; replace HO540 := Aside0.mk (Kd.R_below (pr HO540.out) hb); replace BK534 := Aside0.mk (blk_below (pk BK534.out) hb); replace HB := Aside0.mk (below_step (pb HB) hb); (try clear hb); (try clear hb2); (try clear hk); (try clear hi)))
   go_meet
   case rel => exact ⟨_, (true), (by first | rfl | (simp; done) | (simp [*]; done)), H', ⟨by first | omega | exact Nat.le_refl _⟩, ⟨pk BK534.out⟩, ⟨pb HB⟩⟩
 case rest =>
  clear HC5
  try clear c1
  try clear c2
  try clear p2
  try clear c3
  try clear c6
  try clear c9
  try clear c10
  try clear c11
  try clear c12
  try clear c12b0
  try clear c12b1
  try clear c19
  try clear c19b0
  try clear c19b1
  try clear c26
  try clear c26b0
  try clear c26b1
  try clear c33
  try clear c33b0
  try clear hcz13_0 hcz13_1 hcz13_2 hcz13_3
  try clear hcz17_0 hcz17_1 hcz17_2 hcz17_3
  try clear hcz20_0 hcz20_1 hcz20_2 hcz20_3
  try clear hcz24_0 hcz24_1 hcz24_2 hcz24_3
  try clear hcz27_0 hcz27_1 hcz27_2 hcz27_3
  try clear hcz31_0 hcz31_1 hcz31_2 hcz31_3
  try clear hcz34_0 hcz34_1 hcz34_2 hcz34_3
  try clear hcz38_0 hcz38_1 hcz38_2 hcz38_3
  try clear hcz40_0 hcz40_1 hcz40_2 hcz40_3
  try clear hcz44_0 hcz44_1 hcz44_2 hcz44_3
  try clear hcz46_0 hcz46_1 hcz46_2 hcz46_3
  try clear hcz50_0 hcz50_1 hcz50_2 hcz50_3
  try clear hcz52_0 hcz52_1 hcz52_2 hcz52_3
  try clear hfz13_0 hfz13_1 hfz13_2 hfz13_3
  try clear hfz17_0 hfz17_1 hfz17_2 hfz17_3
  try clear hfz20_0 hfz20_1 hfz20_2 hfz20_3
  try clear hfz24_0 hfz24_1 hfz24_2 hfz24_3
  try clear hfz27_0 hfz27_1 hfz27_2 hfz27_3
  try clear hfz31_0 hfz31_1 hfz31_2 hfz31_3
  try clear hfz34_0 hfz34_1 hfz34_2 hfz34_3
  try clear hfz38_0 hfz38_1 hfz38_2 hfz38_3
  try clear hfz40_0 hfz40_1 hfz40_2 hfz40_3
  try clear hfz44_0 hfz44_1 hfz44_2 hfz44_3
  try clear hfz46_0 hfz46_1 hfz46_2 hfz46_3
  try clear hfz50_0 hfz50_1 hfz50_2 hfz50_3
  try clear hfz52_0 hfz52_1 hfz52_2 hfz52_3
  obtain ⟨kq, x44_4, rfl, HA, HJ4, BK534, HB⟩ := hcut
  cases kq with
  | zero => exact absurd HA.out (by simp [samphirelaw14_BottomTwice.j0])
  | succ kj4 =>
   have H := HA.out
   clear HA
   simp only [samphirelaw14_BottomTwice.j0] at H
   by_cases c56 : x44_4 = true
   ·subst c56
    have H1 : ((samphirelaw14_awake.f kj4).bind fun t543 => (some t543)) = some r := by rw [if_pos rfl] at H; exact H
    clear H
    have H := H1
    clear H1
    replace H := Option.bind_eq_some_iff.mp H
    obtain ⟨t543, A570, H⟩ := H
    replace H : (some t543) = some r := H
    have A57 := Aside0.mk A570
    clear A570
    obtain rfl := Option.some.inj H
    go_wp2_with (first | ((with_reducible refine gate_callee (f := 11) rfl ?_); refine gl (some 45) Try.func11 #[] ?_; (with_reducible refine (samphirelaw14_awake.calls kj4  t543 hrT _ A57.out).mono ?_); rintro e w58 ⟨rfl, hb⟩; refine ⟨_, rfl, ?_⟩; replace BK534 := Aside0.mk (blk_below (pk BK534.out) hb); replace HB := Aside0.mk (below_step (pb HB) hb); (try clear hb); (try clear hb2); (try clear hk); (try clear hi)))
    go_ret
    exact ⟨by first | rfl | (simp [errW_none, errW_some] <;> rfl) | (simp [*, errW_none, errW_some] <;> rfl), pb HB⟩
   ·replace c56 := Bool.eq_false_iff.mpr c56
    subst c56
    have H1 : ((bottom_Add.f kj4 a0_0 a0_1 a0_2 l0_3 a1 a2).bind fun bt544 => ((bottom_Add.f kj4 bt544.1 bt544.2.1 bt544.2.2.1 bt544.2.2.2.1 a1 a3).bind fun bt552 => ((bottom_Add.f kj4 a0_0 a0_1 a0_2 l0_3 a1 (IntKind.u64.wrap (a2 + a3))).bind fun bt560 => (if bt560.2.2.2.2 = 0 then (if bt544.2.2.2.2 = 0 then (if bt552.2.2.2.2 = 0 then ((samphirelaw14_ref.f kj4 bt560.1 bt560.2.1 bt560.2.2.1 bt560.2.2.2.1).bind fun bt568 => ((samphirelaw14_same.f kj4 bt552.1 bt552.2.1 bt552.2.2.1 bt552.2.2.2.1 bt568.1 bt568.2.1 bt568.2.2.1 bt568.2.2.2).bind fun t574 => (if t574 = true then ((samphirelaw14_awake.f kj4).bind fun t575 => (some t575)) else (some false)))) else (some false)) else (some false)) else (if bt544.2.2.2.2 = 12 then ((samphirelaw14_awake.f kj4).bind fun t576 => (some t576)) else (if bt552.2.2.2.2 = 12 then ((samphirelaw14_awake.f kj4).bind fun t577 => (some t577)) else (some false))))))) = some r := by rw [if_neg (show ¬ (false = true) by decide)] at H; exact H
    clear H
    have H := H1
    clear H1
    replace H := Option.bind_eq_some_iff.mp H
    obtain ⟨⟨t544, t545, t546, t547, t550⟩, A590, H⟩ := H
    replace H : ((bottom_Add.f kj4 t544 t545 t546 t547 a1 a3).bind fun bt552 => ((bottom_Add.f kj4 a0_0 a0_1 a0_2 l0_3 a1 (IntKind.u64.wrap (a2 + a3))).bind fun bt560 => (if bt560.2.2.2.2 = 0 then (if t550 = 0 then (if bt552.2.2.2.2 = 0 then ((samphirelaw14_ref.f kj4 bt560.1 bt560.2.1 bt560.2.2.1 bt560.2.2.2.1).bind fun bt568 => ((samphirelaw14_same.f kj4 bt552.1 bt552.2.1 bt552.2.2.1 bt552.2.2.2.1 bt568.1 bt568.2.1 bt568.2.2.1 bt568.2.2.2).bind fun t574 => (if t574 = true then ((samphirelaw14_awake.f kj4).bind fun t575 => (some t575)) else (some false)))) else (some false)) else (some false)) else (if t550 = 12 then ((samphirelaw14_awake.f kj4).bind fun t576 => (some t576)) else (if bt552.2.2.2.2 = 12 then ((samphirelaw14_awake.f kj4).bind fun t577 => (some t577)) else (some false)))))) = some r := H
    have A59 := Aside0.mk A590
    clear A590
    replace H := Option.bind_eq_some_iff.mp H
    obtain ⟨⟨t552, t553, t554, t555, t558⟩, A600, H⟩ := H
    replace H : ((bottom_Add.f kj4 a0_0 a0_1 a0_2 l0_3 a1 (IntKind.u64.wrap (a2 + a3))).bind fun bt560 => (if bt560.2.2.2.2 = 0 then (if t550 = 0 then (if t558 = 0 then ((samphirelaw14_ref.f kj4 bt560.1 bt560.2.1 bt560.2.2.1 bt560.2.2.2.1).bind fun bt568 => ((samphirelaw14_same.f kj4 t552 t553 t554 t555 bt568.1 bt568.2.1 bt568.2.2.1 bt568.2.2.2).bind fun t574 => (if t574 = true then ((samphirelaw14_awake.f kj4).bind fun t575 => (some t575)) else (some false)))) else (some false)) else (some false)) else (if t550 = 12 then ((samphirelaw14_awake.f kj4).bind fun t576 => (some t576)) else (if t558 = 12 then ((samphirelaw14_awake.f kj4).bind fun t577 => (some t577)) else (some false))))) = some r := H
    have A60 := Aside0.mk A600
    clear A600
    replace H := Option.bind_eq_some_iff.mp H
    obtain ⟨⟨t560, t561, t562, t563, t566⟩, A610, H⟩ := H
    replace H : (if t566 = 0 then (if t550 = 0 then (if t558 = 0 then ((samphirelaw14_ref.f kj4 t560 t561 t562 t563).bind fun bt568 => ((samphirelaw14_same.f kj4 t552 t553 t554 t555 bt568.1 bt568.2.1 bt568.2.2.1 bt568.2.2.2).bind fun t574 => (if t574 = true then ((samphirelaw14_awake.f kj4).bind fun t575 => (some t575)) else (some false)))) else (some false)) else (some false)) else (if t550 = 12 then ((samphirelaw14_awake.f kj4).bind fun t576 => (some t576)) else (if t558 = 12 then ((samphirelaw14_awake.f kj4).bind fun t577 => (some t577)) else (some false)))) = some r := H
    have A61 := Aside0.mk A610
    clear A610
    by_cases c62 : t566 = 0
    ·rw [if_pos c62] at H
     have c62b0 : (t566 == 0) = true := beq_iff_eq.mpr c62
     have c62b1 : (t566 != 0) = false := bne_eq_false_iff_eq.mpr c62
     clear c62
     by_cases c63 : t550 = 0
     ·rw [if_pos c63] at H
      have c63b0 : (t550 == 0) = true := beq_iff_eq.mpr c63
      have c63b1 : (t550 != 0) = false := bne_eq_false_iff_eq.mpr c63
      clear c63
      by_cases c64 : t558 = 0
      ·rw [if_pos c64] at H
       have c64b0 : (t558 == 0) = true := beq_iff_eq.mpr c64
       have c64b1 : (t558 != 0) = false := bne_eq_false_iff_eq.mpr c64
       clear c64
       replace H := Option.bind_eq_some_iff.mp H
       obtain ⟨⟨t568, t569, t570, t571⟩, A650, H⟩ := H
       replace H : ((samphirelaw14_same.f kj4 t552 t553 t554 t555 t568 t569 t570 t571).bind fun t574 => (if t574 = true then ((samphirelaw14_awake.f kj4).bind fun t575 => (some t575)) else (some false))) = some r := H
       have A65 := Aside0.mk A650
       clear A650
       replace H := Option.bind_eq_some_iff.mp H
       obtain ⟨t574, A660, H⟩ := H
       replace H : (if t574 = true then ((samphirelaw14_awake.f kj4).bind fun t575 => (some t575)) else (some false)) = some r := H
       have A66 := Aside0.mk A660
       clear A660
       by_cases c67 : t574 = true
       ·subst c67
        have H1 : ((samphirelaw14_awake.f kj4).bind fun t575 => (some t575)) = some r := by rw [if_pos rfl] at H; exact H
        clear H
        have H := H1
        clear H1
        replace H := Option.bind_eq_some_iff.mp H
        obtain ⟨t575, A680, H⟩ := H
        replace H : (some t575) = some r := H
        have A68 := Aside0.mk A680
        clear A680
        obtain rfl := Option.some.inj H
        have hcz69_0 := ce BK534 0
        have hcz69_1 := ce BK534 1
        have hcz69_2 := ce BK534 2
        have hcz69_3 := ce BK534 3
        have hfz69_0 := fz BK534 0
        have hfz69_1 := fz BK534 1
        have hfz69_2 := fz BK534 2
        have hfz69_3 := fz BK534 3
        try go_wp2_with (first | ((with_reducible refine gate_callee (f := 17) rfl ?_); refine gl (some 50) Try.func17 #[.agg #[.int .u64 a0_0, .int .u64 a0_1, .int .i64 a0_2, .slice A0_3 l0_3.length c0_3], .string a1, .int .u64 a2] ?_; (with_reducible refine (bottom_Add.calls kj4 a0_0 a0_1 a0_2 (fun k_ => k_ < w.heap.size) _ _ l0_3 a1 a2 t544 t545 t546 t547 t550 _ ?side1 A59.out).mono ?_); (case side1 => exact Kd.V_mk HC0_3.out (Kd.F_below (Kd.C_F k62_heap HR0_3.out) (pb HB))); rintro e w70 ⟨v548, rfl, ho0, hb⟩; refine ⟨_, rfl, ?_⟩; have n0_ := Aside0.mk (Kd.V_lower (Kd.V_mono (ok' := fun k_ => k_ ≠ gb534) ho0 (fun k_ hk_ => Or.elim hk_ (fun hs_ => fun e_ => Nat.not_le.2 hs_ (by rw [e_]; exact GW534.out)) (fun hn_ => (Kd.freshB (g := gb534) (o := .cells #[.int .u64 a0_0, .int .u64 a0_1, .int .i64 a0_2, .slice A0_3 l0_3.length c0_3] 27 (0, 0)) (pk BK534.out) k_ hn_)))) (below_size (pb HB))); have n1_ := Aside0.mk (blk_below (pk BK534.out) hb); have n2_ := Aside0.mk (below_step (pb HB) hb); clear BK534; clear HB; have HO549 := n0_; have BK534 := n1_; have HB := n2_; clear n0_ n1_ n2_; (try clear hb); (try clear hb2); (try clear hk); (try clear hi); (try clear ho0)) | ((with_reducible refine gate_dst (N := 9) rfl ?_); (try (refine gate_guard (by rfl) ?_; dsimp only)); refine box_event ?hg (N := 9) ?hd (cs := #[.int .u64 0, .int .u64 0, .int .i64 0, .slice none 0 0]) (t := 27) ?hr ?_; (case hd => rfl); (case hg => rfl); (case hr => first | (go_simp; done) | (go_simp; rfl)); intro gb551 hg w71 hbox hb; have n0_ := Aside0.mk (Kd.V_below (Kd.V_elderB (pv HO549.out) gb551 (Nat.le_of_eq hg.symm)) hb); have n1_ := Aside0.mk (blk_below (pk BK534.out) hb); have n2_ := Aside0.mk (below_step (pb HB) hb); have n3_ := Aside0.mk (hbox); have n4_ := Aside0.mk ((pg hg HB : w.heap.size ≤ gb551)); have n5_ := Aside0.mk ((pg hg HB : w.heap.size ≤ gb551)); have n6_ := Aside0.mk ((pl hg (pk BK534.out) : gb534 ≠ gb551)); have n7_ := Aside0.mk ((pl' hg (pk BK534.out) : gb551 ≠ gb534)); clear HO549; clear BK534; clear HB; have HO549 := n0_; have BK534 := n1_; have HB := n2_; have BK551 := n3_; have GW551 := n4_; have GE551 := n5_; have NB534_551 := n6_; have NB551_534 := n7_; clear n0_ n1_ n2_ n3_ n4_ n5_ n6_ n7_; clear hb hbox hg; have hnb72 := NB551_534.out; have hnc72 := NB534_551.out; have hcz73_0 := ce BK551 0; have hcz73_1 := ce BK551 1; have hcz73_2 := ce BK551 2; have hcz73_3 := ce BK551 3; have hfz73_0 := fz BK551 0; have hfz73_1 := fz BK551 1; have hfz73_2 := fz BK551 2; have hfz73_3 := fz BK551 3; obtain ⟨Ao74, co74, eo74⟩ := Kd.V_slice HO549.out; subst eo74) | ((with_reducible refine gate_store (t := 27) (p := 9) rfl ?_); refine store_event (t := 27) (p := 9) (v := ?vo_w75) (w1 := ((((w71.setCell ⟨gb551, 0, none⟩ (.int .u64 t544)).setCell ⟨gb551, 1, none⟩ (.int .u64 t545)).setCell ⟨gb551, 2, none⟩ (.int .i64 t546)).setCell ⟨gb551, 3, none⟩ (.slice Ao74 t547.length co74))) ?hg ?ho ?hn ?hr ?_; (case ho => rfl); (case hg => rfl); (case hn => rfl); (case hr => first | (go_simp; done) | (go_simp; rfl)); intro w75 hw; have n0_ : Aside0 (Kd.V k62 62 w75 w.heap.size (fun k_ => k_ ≠ gb534 ∧ k_ ≠ gb551) (.slice Ao74 t547.length co74) t547) := ⟨(by rw [hw]; exact (pv (Kd.V_mono (Kd.V_far (p := ⟨gb551, 3, none⟩) (Kd.V_far (p := ⟨gb551, 2, none⟩) (Kd.V_far (p := ⟨gb551, 1, none⟩) (Kd.V_far (p := ⟨gb551, 0, none⟩) (Kd.V_mono HO549.out (fun k_ hk => (⟨hk, hk.2⟩ : _ ∧ k_ ≠ gb551))) (fun _ hk => hk.2) (.int .u64 t544)) (fun _ hk => hk.2) (.int .u64 t545)) (fun _ hk => hk.2) (.int .i64 t546)) (fun _ hk => hk.2) (.slice Ao74 t547.length co74)) (fun _ hk => ⟨hk.1.1, hk.1.2⟩))))⟩; have n1_ : Aside0 (w75.heap[gb534]? = some (.cells #[.int .u64 a0_0, .int .u64 a0_1, .int .i64 a0_2, .slice A0_3 l0_3.length c0_3] 27 (0, 0))) := ⟨(by rw [hw]; exact (by refine pk ?_; refine blk_far ?_ NB534_551.out _; refine pk ?_; refine blk_far ?_ NB534_551.out _; refine pk ?_; refine blk_far ?_ NB534_551.out _; refine pk ?_; refine blk_far ?_ NB534_551.out _; refine pk ?_; exact BK534.out))⟩; have n2_ : Aside0 (w75.heap[gb551]? = some (.cells #[.int .u64 t544, .int .u64 t545, .int .i64 t546, .slice Ao74 t547.length co74] 27 (0, 0))) := ⟨(by rw [hw]; exact (by refine pk ?_; refine blk_put (cs := #[.int .u64 t544, .int .u64 t545, .int .i64 t546, .slice none 0 0]) ?_ 3 _ rfl; refine pk ?_; refine blk_put (cs := #[.int .u64 t544, .int .u64 t545, .int .i64 0, .slice none 0 0]) ?_ 2 _ rfl; refine pk ?_; refine blk_put (cs := #[.int .u64 t544, .int .u64 0, .int .i64 0, .slice none 0 0]) ?_ 1 _ rfl; refine pk ?_; refine blk_put (cs := #[.int .u64 0, .int .u64 0, .int .i64 0, .slice none 0 0]) ?_ 0 _ rfl; refine pk ?_; exact BK551.out))⟩; have n3_ : Aside0 (Below w.heap.size w w75) := ⟨(by rw [hw]; exact (pb HB))⟩; clear hw; clear HO549; clear BK534; clear BK551; clear HB; have HO549 := n0_; have BK534 := n1_; have BK551 := n2_; have HB := n3_; clear n0_ n1_ n2_ n3_; have hcz76_0 := ce BK551 0; have hcz76_1 := ce BK551 1; have hcz76_2 := ce BK551 2; have hcz76_3 := ce BK551 3; have hfz76_0 := fz BK551 0; have hfz76_1 := fz BK551 1; have hfz76_2 := fz BK551 2; have hfz76_3 := fz BK551 3) | ((with_reducible refine gate_callee (f := 17) rfl ?_); refine gl (some 57) Try.func17 #[.agg #[.int .u64 t544, .int .u64 t545, .int .i64 t546, .slice Ao74 t547.length co74], .string a1, .int .u64 a3] ?_; (with_reducible refine (bottom_Add.calls kj4 t544 t545 t546 (fun k_ => (k_ ≠ gb534 ∧ k_ ≠ gb551)) _ _ t547 a1 a3 t552 t553 t554 t555 t558 _ ?side1 A60.out).mono ?_); (case side1 => exact HO549.out); rintro e w77 ⟨v556, rfl, ho0, hb⟩; refine ⟨_, rfl, ?_⟩; have n0_ := Aside0.mk (Kd.V_below (pv HO549.out) hb); have n1_ := Aside0.mk (Kd.V_lower (Kd.V_mono (ok' := fun k_ => k_ ≠ gb534 ∧ k_ ≠ gb551) ho0 (fun k_ hk_ => ⟨Or.elim hk_ (fun hs_ => hs_.1) (fun hn_ => (Kd.freshB (g := gb534) (o := .cells #[.int .u64 a0_0, .int .u64 a0_1, .int .i64 a0_2, .slice A0_3 l0_3.length c0_3] 27 (0, 0)) (pk BK534.out) k_ hn_)), Or.elim hk_ (fun hs_ => hs_.2) (fun hn_ => (Kd.freshB (g := gb551) (o := .cells #[.int .u64 t544, .int .u64 t545, .int .i64 t546, .slice Ao74 t547.length co74] 27 (0, 0)) (pk BK551.out) k_ hn_))⟩)) (below_size (pb HB))); have n2_ := Aside0.mk (blk_below (pk BK534.out) hb); have n3_ := Aside0.mk (blk_below (pk BK551.out) hb); have n4_ := Aside0.mk (below_step (pb HB) hb); clear HO549; clear BK534; clear BK551; clear HB; have HO549 := n0_; have HO557 := n1_; have BK534 := n2_; have BK551 := n3_; have HB := n4_; clear n0_ n1_ n2_ n3_ n4_; (try clear hb); (try clear hb2); (try clear hk); (try clear hi); (try clear ho0)) | ((with_reducible refine gate_dst (N := 11) rfl ?_); (try (refine gate_guard (by rfl) ?_; dsimp only)); refine box_event ?hg (N := 11) ?hd (cs := #[.int .u64 0, .int .u64 0, .int .i64 0, .slice none 0 0]) (t := 27) ?hr ?_; (case hd => rfl); (case hg => rfl); (case hr => first | (go_simp; done) | (go_simp; rfl)); intro gb559 hg w78 hbox hb; have n0_ := Aside0.mk (Kd.V_below (Kd.V_elderB (pv HO549.out) gb559 (Nat.le_of_eq hg.symm)) hb); have n1_ := Aside0.mk (Kd.V_below (Kd.V_elderB (pv HO557.out) gb559 (Nat.le_of_eq hg.symm)) hb); have n2_ := Aside0.mk (blk_below (pk BK534.out) hb); have n3_ := Aside0.mk (blk_below (pk BK551.out) hb); have n4_ := Aside0.mk (below_step (pb HB) hb); have n5_ := Aside0.mk (hbox); have n6_ := Aside0.mk ((pg hg HB : w.heap.size ≤ gb559)); have n7_ := Aside0.mk ((pg hg HB : w.heap.size ≤ gb559)); have n8_ := Aside0.mk ((pl hg (pk BK534.out) : gb534 ≠ gb559)); have n9_ := Aside0.mk ((pl' hg (pk BK534.out) : gb559 ≠ gb534)); have n10_ := Aside0.mk ((pl hg (pk BK551.out) : gb551 ≠ gb559)); have n11_ := Aside0.mk ((pl' hg (pk BK551.out) : gb559 ≠ gb551)); clear HO549; clear HO557; clear BK534; clear BK551; clear HB; have HO549 := n0_; have HO557 := n1_; have BK534 := n2_; have BK551 := n3_; have HB := n4_; have BK559 := n5_; have GW559 := n6_; have GE559 := n7_; have NB534_559 := n8_; have NB559_534 := n9_; have NB551_559 := n10_; have NB559_551 := n11_; clear n0_ n1_ n2_ n3_ n4_ n5_ n6_ n7_ n8_ n9_ n10_ n11_; clear hb hbox hg; have hnb79 := NB559_534.out; have hnc79 := NB534_559.out; have hnb80 := NB559_551.out; have hnc80 := NB551_559.out; have hcz81_0 := ce BK559 0; have hcz81_1 := ce BK559 1; have hcz81_2 := ce BK559 2; have hcz81_3 := ce BK559 3; have hfz81_0 := fz BK559 0; have hfz81_1 := fz BK559 1; have hfz81_2 := fz BK559 2; have hfz81_3 := fz BK559 3; obtain ⟨Ao82, co82, eo82⟩ := Kd.V_slice HO557.out; subst eo82) | ((with_reducible refine gate_store (t := 27) (p := 11) rfl ?_); refine store_event (t := 27) (p := 11) (v := ?vo_w83) (w1 := ((((w78.setCell ⟨gb559, 0, none⟩ (.int .u64 t552)).setCell ⟨gb559, 1, none⟩ (.int .u64 t553)).setCell ⟨gb559, 2, none⟩ (.int .i64 t554)).setCell ⟨gb559, 3, none⟩ (.slice Ao82 t555.length co82))) ?hg ?ho ?hn ?hr ?_; (case ho => rfl); (case hg => rfl); (case hn => rfl); (case hr => first | (go_simp; done) | (go_simp; rfl)); intro w83 hw; have n0_ : Aside0 (Kd.V k62 62 w83 w.heap.size (fun k_ => k_ ≠ gb534 ∧ k_ ≠ gb551 ∧ k_ ≠ gb559) (.slice Ao74 t547.length co74) t547) := ⟨(by rw [hw]; exact (pv (Kd.V_mono (Kd.V_far (p := ⟨gb559, 3, none⟩) (Kd.V_far (p := ⟨gb559, 2, none⟩) (Kd.V_far (p := ⟨gb559, 1, none⟩) (Kd.V_far (p := ⟨gb559, 0, none⟩) (Kd.V_mono HO549.out (fun k_ hk => (⟨hk, hk.2⟩ : _ ∧ k_ ≠ gb559))) (fun _ hk => hk.2) (.int .u64 t552)) (fun _ hk => hk.2) (.int .u64 t553)) (fun _ hk => hk.2) (.int .i64 t554)) (fun _ hk => hk.2) (.slice Ao82 t555.length co82)) (fun _ hk => ⟨hk.1.1.1, ⟨hk.1.1.2, hk.1.2⟩⟩))))⟩; have n1_ : Aside0 (Kd.V k62 62 w83 w.heap.size (fun k_ => k_ ≠ gb534 ∧ k_ ≠ gb551 ∧ k_ ≠ gb559) (.slice Ao82 t555.length co82) t555) := ⟨(by rw [hw]; exact (pv (Kd.V_mono (Kd.V_far (p := ⟨gb559, 3, none⟩) (Kd.V_far (p := ⟨gb559, 2, none⟩) (Kd.V_far (p := ⟨gb559, 1, none⟩) (Kd.V_far (p := ⟨gb559, 0, none⟩) (Kd.V_mono HO557.out (fun k_ hk => (⟨hk, hk.2⟩ : _ ∧ k_ ≠ gb559))) (fun _ hk => hk.2) (.int .u64 t552)) (fun _ hk => hk.2) (.int .u64 t553)) (fun _ hk => hk.2) (.int .i64 t554)) (fun _ hk => hk.2) (.slice Ao82 t555.length co82)) (fun _ hk => ⟨hk.1.1.1, ⟨hk.1.1.2, hk.1.2⟩⟩))))⟩; have n2_ : Aside0 (w83.heap[gb534]? = some (.cells #[.int .u64 a0_0, .int .u64 a0_1, .int .i64 a0_2, .slice A0_3 l0_3.length c0_3] 27 (0, 0))) := ⟨(by rw [hw]; exact (by refine pk ?_; refine blk_far ?_ NB534_559.out _; refine pk ?_; refine blk_far ?_ NB534_559.out _; refine pk ?_; refine blk_far ?_ NB534_559.out _; refine pk ?_; refine blk_far ?_ NB534_559.out _; refine pk ?_; exact BK534.out))⟩; have n3_ : Aside0 (w83.heap[gb551]? = some (.cells #[.int .u64 t544, .int .u64 t545, .int .i64 t546, .slice Ao74 t547.length co74] 27 (0, 0))) := ⟨(by rw [hw]; exact (by refine pk ?_; refine blk_far ?_ NB551_559.out _; refine pk ?_; refine blk_far ?_ NB551_559.out _; refine pk ?_; refine blk_far ?_ NB551_559.out _; refine pk ?_; refine blk_far ?_ NB551_559.out _; refine pk ?_; exact BK551.out))⟩; have n4_ : Aside0 (w83.heap[gb559]? = some (.cells #[.int .u64 t552, .int .u64 t553, .int .i64 t554, .slice Ao82 t555.length co82] 27 (0, 0))) := ⟨(by rw [hw]; exact (by refine pk ?_; refine blk_put (cs := #[.int .u64 t552, .int .u64 t553, .int .i64 t554, .slice none 0 0]) ?_ 3 _ rfl; refine pk ?_; refine blk_put (cs := #[.int .u64 t552, .int .u64 t553, .int .i64 0, .slice none 0 0]) ?_ 2 _ rfl; refine pk ?_; refine blk_put (cs := #[.int .u64 t552, .int .u64 0, .int .i64 0, .slice none 0 0]) ?_ 1 _ rfl; refine pk ?_; refine blk_put (cs := #[.int .u64 0, .int .u64 0, .int .i64 0, .slice none 0 0]) ?_ 0 _ rfl; refine pk ?_; exact BK559.out))⟩; have n5_ : Aside0 (Below w.heap.size w w83) := ⟨(by rw [hw]; exact (pb HB))⟩; clear hw; clear HO549; clear HO557; clear BK534; clear BK551; clear BK559; clear HB; have HO549 := n0_; have HO557 := n1_; have BK534 := n2_; have BK551 := n3_; have BK559 := n4_; have HB := n5_; clear n0_ n1_ n2_ n3_ n4_ n5_; have hcz84_0 := ce BK534 0; have hcz84_1 := ce BK534 1; have hcz84_2 := ce BK534 2; have hcz84_3 := ce BK534 3; have hfz84_0 := fz BK534 0; have hfz84_1 := fz BK534 1; have hfz84_2 := fz BK534 2; have hfz84_3 := fz BK534 3) | ((with_reducible refine gate_callee (f := 17) rfl ?_); refine gl (some 66) Try.func17 #[.agg #[.int .u64 a0_0, .int .u64 a0_1, .int .i64 a0_2, .slice A0_3 l0_3.length c0_3], .string a1, .int .u64 (IntKind.u64.wrap (a2 + a3))] ?_; (with_reducible refine (bottom_Add.calls kj4 a0_0 a0_1 a0_2 (fun k_ => k_ < w.heap.size) _ _ l0_3 a1 (IntKind.u64.wrap (a2 + a3)) t560 t561 t562 t563 t566 _ ?side1 A61.out).mono ?_); (case side1 => exact Kd.V_mk HC0_3.out (Kd.F_below (Kd.C_F k62_heap HR0_3.out) (pb HB))); rintro e w85 ⟨v564, rfl, ho0, hb⟩; refine ⟨_, rfl, ?_⟩; have n0_ := Aside0.mk (Kd.V_below (pv HO549.out) hb); have n1_ := Aside0.mk (Kd.V_below (pv HO557.out) hb); have n2_ := Aside0.mk (Kd.V_lower (Kd.V_mono (ok' := fun k_ => k_ ≠ gb534 ∧ k_ ≠ gb551 ∧ k_ ≠ gb559) ho0 (fun k_ hk_ => ⟨Or.elim hk_ (fun hs_ => fun e_ => Nat.not_le.2 hs_ (by rw [e_]; exact GW534.out)) (fun hn_ => (Kd.freshB (g := gb534) (o := .cells #[.int .u64 a0_0, .int .u64 a0_1, .int .i64 a0_2, .slice A0_3 l0_3.length c0_3] 27 (0, 0)) (pk BK534.out) k_ hn_)), Or.elim hk_ (fun hs_ => fun e_ => Nat.not_le.2 hs_ (by rw [e_]; exact GW551.out)) (fun hn_ => (Kd.freshB (g := gb551) (o := .cells #[.int .u64 t544, .int .u64 t545, .int .i64 t546, .slice Ao74 t547.length co74] 27 (0, 0)) (pk BK551.out) k_ hn_)), Or.elim hk_ (fun hs_ => fun e_ => Nat.not_le.2 hs_ (by rw [e_]; exact GW559.out)) (fun hn_ => (Kd.freshB (g := gb559) (o := .cells #[.int .u64 t552, .int .u64 t553, .int .i64 t554, .slice Ao82 t555.length co82] 27 (0, 0)) (pk BK559.out) k_ hn_))⟩)) (below_size (pb HB))); have n3_ := Aside0.mk (blk_below (pk BK534.out) hb); have n4_ := Aside0.mk (blk_below (pk BK551.out) hb); have n5_ := Aside0.mk (blk_below (pk BK559.out) hb); have n6_ := Aside0.mk (below_step (pb HB) hb); clear HO549; clear HO557; clear BK534; clear BK551; clear BK559; clear HB; have HO549 := n0_; have HO557 := n1_; have HO565 := n2_; have BK534 := n3_; have BK551 := n4_; have BK559 := n5_; have HB := n6_; clear n0_ n1_ n2_ n3_ n4_ n5_ n6_; (try clear hb); (try clear hb2); (try clear hk); (try clear hi); (try clear ho0)) | ((with_reducible refine gate_dst (N := 13) rfl ?_); (try (refine gate_guard (by rfl) ?_; dsimp only)); refine box_event ?hg (N := 13) ?hd (cs := #[.int .u64 0, .int .u64 0, .int .i64 0, .slice none 0 0]) (t := 27) ?hr ?_; (case hd => rfl); (case hg => rfl); (case hr => first | (go_simp; done) | (go_simp; rfl)); intro gb567 hg w86 hbox hb; have n0_ := Aside0.mk (Kd.V_below (Kd.V_elderB (pv HO549.out) gb567 (Nat.le_of_eq hg.symm)) hb); have n1_ := Aside0.mk (Kd.V_below (Kd.V_elderB (pv HO557.out) gb567 (Nat.le_of_eq hg.symm)) hb); have n2_ := Aside0.mk (Kd.V_below (Kd.V_elderB (pv HO565.out) gb567 (Nat.le_of_eq hg.symm)) hb); have n3_ := Aside0.mk (blk_below (pk BK534.out) hb); have n4_ := Aside0.mk (blk_below (pk BK551.out) hb); have n5_ := Aside0.mk (blk_below (pk BK559.out) hb); have n6_ := Aside0.mk (below_step (pb HB) hb); have n7_ := Aside0.mk (hbox); have n8_ := Aside0.mk ((pg hg HB : w.heap.size ≤ gb567)); have n9_ := Aside0.mk ((pg hg HB : w.heap.size ≤ gb567)); have n10_ := Aside0.mk ((pl hg (pk BK534.out) : gb534 ≠ gb567)); have n11_ := Aside0.mk ((pl' hg (pk BK534.out) : gb567 ≠ gb534)); have n12_ := Aside0.mk ((pl hg (pk BK551.out) : gb551 ≠ gb567)); have n13_ := Aside0.mk ((pl' hg (pk BK551.out) : gb567 ≠ gb551)); have n14_ := Aside0.mk ((pl hg (pk BK559.out) : gb559 ≠ gb567)); have n15_ := Aside0.mk ((pl' hg (pk BK559.out) : gb567 ≠ gb559)); clear HO549; clear HO557; clear HO565; clear BK534; clear BK551; clear BK559; clear HB; have HO549 := n0_; have HO557 := n1_; have HO565 := n2_; have BK534 := n3_; have BK551 := n4_; have BK559 := n5_; have HB := n6_; have BK567 := n7_; have GW567 := n8_; have GE567 := n9_; have NB534_567 := n10_; have NB567_534 := n11_; have NB551_567 := n12_; have NB567_551 := n13_; have NB559_567 := n14_; have NB567_559 := n15_; clear n0_ n1_ n2_ n3_ n4_ n5_ n6_ n7_ n8_ n9_ n10_ n11_ n12_ n13_ n14_ n15_; clear hb hbox hg; have hnb87 := NB567_534.out; have hnc87 := NB534_567.out; have hnb88 := NB567_551.out; have hnc88 := NB551_567.out; have hnb89 := NB567_559.out; have hnc89 := NB559_567.out; have hcz90_0 := ce BK567 0; have hcz90_1 := ce BK567 1; have hcz90_2 := ce BK567 2; have hcz90_3 := ce BK567 3; have hfz90_0 := fz BK567 0; have hfz90_1 := fz BK567 1; have hfz90_2 := fz BK567 2; have hfz90_3 := fz BK567 3; obtain ⟨Ao91, co91, eo91⟩ := Kd.V_slice HO565.out; subst eo91))
        have n0_ : Aside0 (Kd.V k62 62 ((((w86.setCell ⟨gb567, 0, none⟩ (.int .u64 t560)).setCell ⟨gb567, 1, none⟩ (.int .u64 t561)).setCell ⟨gb567, 2, none⟩ (.int .i64 t562)).setCell ⟨gb567, 3, none⟩ (.slice Ao91 t563.length co91)) w.heap.size (fun k_ => k_ ≠ gb534 ∧ k_ ≠ gb551 ∧ k_ ≠ gb559 ∧ k_ ≠ gb567) (.slice Ao74 t547.length co74) t547) := ⟨by refine pv ?_; exact Kd.V_mono (Kd.V_far (p := ⟨gb567, 3, none⟩) (Kd.V_far (p := ⟨gb567, 2, none⟩) (Kd.V_far (p := ⟨gb567, 1, none⟩) (Kd.V_far (p := ⟨gb567, 0, none⟩) (Kd.V_mono HO549.out (fun k_ hk => (⟨hk, hk.2⟩ : _ ∧ k_ ≠ gb567))) (fun _ hk => hk.2) (.int .u64 t560)) (fun _ hk => hk.2) (.int .u64 t561)) (fun _ hk => hk.2) (.int .i64 t562)) (fun _ hk => hk.2) (.slice Ao91 t563.length co91)) (fun _ hk => ⟨hk.1.1.1, ⟨hk.1.1.2.1, ⟨hk.1.1.2.2, hk.1.2⟩⟩⟩)⟩
        have n1_ : Aside0 (Kd.V k62 62 ((((w86.setCell ⟨gb567, 0, none⟩ (.int .u64 t560)).setCell ⟨gb567, 1, none⟩ (.int .u64 t561)).setCell ⟨gb567, 2, none⟩ (.int .i64 t562)).setCell ⟨gb567, 3, none⟩ (.slice Ao91 t563.length co91)) w.heap.size (fun k_ => k_ ≠ gb534 ∧ k_ ≠ gb551 ∧ k_ ≠ gb559 ∧ k_ ≠ gb567) (.slice Ao82 t555.length co82) t555) := ⟨by refine pv ?_; exact Kd.V_mono (Kd.V_far (p := ⟨gb567, 3, none⟩) (Kd.V_far (p := ⟨gb567, 2, none⟩) (Kd.V_far (p := ⟨gb567, 1, none⟩) (Kd.V_far (p := ⟨gb567, 0, none⟩) (Kd.V_mono HO557.out (fun k_ hk => (⟨hk, hk.2⟩ : _ ∧ k_ ≠ gb567))) (fun _ hk => hk.2) (.int .u64 t560)) (fun _ hk => hk.2) (.int .u64 t561)) (fun _ hk => hk.2) (.int .i64 t562)) (fun _ hk => hk.2) (.slice Ao91 t563.length co91)) (fun _ hk => ⟨hk.1.1.1, ⟨hk.1.1.2.1, ⟨hk.1.1.2.2, hk.1.2⟩⟩⟩)⟩
        have n2_ : Aside0 (Kd.V k62 62 ((((w86.setCell ⟨gb567, 0, none⟩ (.int .u64 t560)).setCell ⟨gb567, 1, none⟩ (.int .u64 t561)).setCell ⟨gb567, 2, none⟩ (.int .i64 t562)).setCell ⟨gb567, 3, none⟩ (.slice Ao91 t563.length co91)) w.heap.size (fun k_ => k_ ≠ gb534 ∧ k_ ≠ gb551 ∧ k_ ≠ gb559 ∧ k_ ≠ gb567) (.slice Ao91 t563.length co91) t563) := ⟨by refine pv ?_; exact Kd.V_mono (Kd.V_far (p := ⟨gb567, 3, none⟩) (Kd.V_far (p := ⟨gb567, 2, none⟩) (Kd.V_far (p := ⟨gb567, 1, none⟩) (Kd.V_far (p := ⟨gb567, 0, none⟩) (Kd.V_mono HO565.out (fun k_ hk => (⟨hk, hk.2⟩ : _ ∧ k_ ≠ gb567))) (fun _ hk => hk.2) (.int .u64 t560)) (fun _ hk => hk.2) (.int .u64 t561)) (fun _ hk => hk.2) (.int .i64 t562)) (fun _ hk => hk.2) (.slice Ao91 t563.length co91)) (fun _ hk => ⟨hk.1.1.1, ⟨hk.1.1.2.1, ⟨hk.1.1.2.2, hk.1.2⟩⟩⟩)⟩
        have n3_ : Aside0 (((((w86.setCell ⟨gb567, 0, none⟩ (.int .u64 t560)).setCell ⟨gb567, 1, none⟩ (.int .u64 t561)).setCell ⟨gb567, 2, none⟩ (.int .i64 t562)).setCell ⟨gb567, 3, none⟩ (.slice Ao91 t563.length co91)).heap[gb534]? = some (.cells #[.int .u64 a0_0, .int .u64 a0_1, .int .i64 a0_2, .slice A0_3 l0_3.length c0_3] 27 (0, 0))) := ⟨by refine pk ?_; refine blk_far ?_ NB534_567.out _; refine pk ?_; refine blk_far ?_ NB534_567.out _; refine pk ?_; refine blk_far ?_ NB534_567.out _; refine pk ?_; refine blk_far ?_ NB534_567.out _; refine pk ?_; exact BK534.out⟩
        have n4_ : Aside0 (((((w86.setCell ⟨gb567, 0, none⟩ (.int .u64 t560)).setCell ⟨gb567, 1, none⟩ (.int .u64 t561)).setCell ⟨gb567, 2, none⟩ (.int .i64 t562)).setCell ⟨gb567, 3, none⟩ (.slice Ao91 t563.length co91)).heap[gb551]? = some (.cells #[.int .u64 t544, .int .u64 t545, .int .i64 t546, .slice Ao74 t547.length co74] 27 (0, 0))) := ⟨by refine pk ?_; refine blk_far ?_ NB551_567.out _; refine pk ?_; refine blk_far ?_ NB551_567.out _; refine pk ?_; refine blk_far ?_ NB551_567.out _; refine pk ?_; refine blk_far ?_ NB551_567.out _; refine pk ?_; exact BK551.out⟩
        have n5_ : Aside0 (((((w86.setCell ⟨gb567, 0, none⟩ (.int .u64 t560)).setCell ⟨gb567, 1, none⟩ (.int .u64 t561)).setCell ⟨gb567, 2, none⟩ (.int .i64 t562)).setCell ⟨gb567, 3, none⟩ (.slice Ao91 t563.length co91)).heap[gb559]? = some (.cells #[.int .u64 t552, .int .u64 t553, .int .i64 t554, .slice Ao82 t555.length co82] 27 (0, 0))) := ⟨by refine pk ?_; refine blk_far ?_ NB559_567.out _; refine pk ?_; refine blk_far ?_ NB559_567.out _; refine pk ?_; refine blk_far ?_ NB559_567.out _; refine pk ?_; refine blk_far ?_ NB559_567.out _; refine pk ?_; exact BK559.out⟩
        have n6_ : Aside0 (((((w86.setCell ⟨gb567, 0, none⟩ (.int .u64 t560)).setCell ⟨gb567, 1, none⟩ (.int .u64 t561)).setCell ⟨gb567, 2, none⟩ (.int .i64 t562)).setCell ⟨gb567, 3, none⟩ (.slice Ao91 t563.length co91)).heap[gb567]? = some (.cells #[.int .u64 t560, .int .u64 t561, .int .i64 t562, .slice Ao91 t563.length co91] 27 (0, 0))) := ⟨by refine pk ?_; refine blk_put (cs := #[.int .u64 t560, .int .u64 t561, .int .i64 t562, .slice none 0 0]) ?_ 3 _ rfl; refine pk ?_; refine blk_put (cs := #[.int .u64 t560, .int .u64 t561, .int .i64 0, .slice none 0 0]) ?_ 2 _ rfl; refine pk ?_; refine blk_put (cs := #[.int .u64 t560, .int .u64 0, .int .i64 0, .slice none 0 0]) ?_ 1 _ rfl; refine pk ?_; refine blk_put (cs := #[.int .u64 0, .int .u64 0, .int .i64 0, .slice none 0 0]) ?_ 0 _ rfl; refine pk ?_; exact BK567.out⟩
        have n7_ : Aside0 (Below w.heap.size w ((((w86.setCell ⟨gb567, 0, none⟩ (.int .u64 t560)).setCell ⟨gb567, 1, none⟩ (.int .u64 t561)).setCell ⟨gb567, 2, none⟩ (.int .i64 t562)).setCell ⟨gb567, 3, none⟩ (.slice Ao91 t563.length co91))) := ⟨pb HB⟩
        (try clear HO549)
        (try clear HO557)
        (try clear HO565)
        (try clear BK534)
        (try clear BK551)
        (try clear BK559)
        (try clear BK567)
        (try clear HB)
        generalize ((((w86.setCell ⟨gb567, 0, none⟩ (.int .u64 t560)).setCell ⟨gb567, 1, none⟩ (.int .u64 t561)).setCell ⟨gb567, 2, none⟩ (.int .i64 t562)).setCell ⟨gb567, 3, none⟩ (.slice Ao91 t563.length co91)) = w92 at n0_ n1_ n2_ n3_ n4_ n5_ n6_ n7_ ⊢
        have HO549 := n0_
        have HO557 := n1_
        have HO565 := n2_
        have BK534 := n3_
        have BK551 := n4_
        have BK559 := n5_
        have BK567 := n6_
        have HB := n7_
        clear n0_ n1_ n2_ n3_ n4_ n5_ n6_ n7_
        replace HO549 := Aside0.mk (Kd.V_drew HO549.out)
        replace HO557 := Aside0.mk (Kd.V_drew HO557.out)
        replace HO565 := Aside0.mk (Kd.V_drew HO565.out)
        replace BK534 := Aside0.mk (blk_drew BK534.out)
        replace BK551 := Aside0.mk (blk_drew BK551.out)
        replace BK559 := Aside0.mk (blk_drew BK559.out)
        replace BK567 := Aside0.mk (blk_drew BK567.out)
        replace HB := Aside0.mk (below_drew1 HB.out)
        refine start_ (n := 16) (S := fun w' => w'.cell? ⟨gb559, 0, none⟩ = some (.int .u64 t552) ∧ w'.cell? ⟨gb559, 1, none⟩ = some (.int .u64 t553) ∧ w'.cell? ⟨gb559, 2, none⟩ = some (.int .i64 t554) ∧ w'.cell? ⟨gb559, 3, none⟩ = some (.slice Ao82 t555.length co82) ∧ w'.cell? ⟨gb567, 0, none⟩ = some (.int .u64 t560) ∧ w'.cell? ⟨gb567, 1, none⟩ = some (.int .u64 t561) ∧ w'.cell? ⟨gb567, 2, none⟩ = some (.int .i64 t562) ∧ w'.cell? ⟨gb567, 3, none⟩ = some (.slice Ao91 t563.length co91)) (ds := []) #[false, false, false, false, false, false, false, false, false, false, false, false, false, false, false, false] (by kernel_rfl) rfl rfl ⟨ce BK559 0, ce BK559 1, ce BK559 2, ce BK559 3, ce BK567 0, ce BK567 1, ce BK567 2, ce BK567 3⟩ (fun hHeld => ?_); refine with_tabW samphirelaw14_BottomTwice.tab8 samphirelaw14_BottomTwice.bits8 (fun HT_ HW_ => ?_)
        generalize w92.drew = w93 at HO549 HO557 HO565 BK534 BK551 BK559 BK567 HB hHeld ⊢
        refine pu 0 ?_
        refine pu 1 ?_
        refine pu 2 ?_
        refine pu 3 ?_
        refine pu 4 ?_
        refine pu 5 ?_
        refine pu 6 ?_
        refine ta 7 hHeld ?_
        refine ta 8 hHeld ?_
        refine on1 9 (fun K hK => ?_)
        refine gs Try.func9 #[.agg #[.int .u64 t560, .int .u64 t561, .int .i64 t562, .slice Ao91 t563.length co91]] ?_
        with_reducible refine (samphirelaw14_ref.calls kj4 t560 t561 t562 _ _ t563 t568 t569 t570 t571 _ ?side1 ?side2 A65.out).mono ?_
        (case side1 => repeat (first | exact (Kd.V_reads' HO565.out).2.2 | (with_reducible refine Kd.C_alloc ?_ _) | (with_reducible refine Kd.C_drewN ?_ _) | (with_reducible refine Kd.C_drew ?_)))
        (case side2 => exact (Kd.V_reads' HO565.out).2.1)
        rintro e w94 ⟨v572, rfl, ho0, hb⟩
        refine ⟨_, rfl, ?_⟩
        have n0_ := Aside0.mk (Kd.V_elder' (pv HO549.out) (Kd.R_base ho0) hb)
        have n1_ := Aside0.mk (Kd.V_elder' (pv HO557.out) (Kd.R_base ho0) hb)
        have n2_ := Aside0.mk (Kd.V_elder' (pv HO565.out) (Kd.R_base ho0) hb)
        have n3_ := Aside0.mk (Kd.R_lower ho0 (below_size (pb HB)))
        have n4_ := Aside0.mk (blk_below (pk BK534.out) hb)
        have n5_ := Aside0.mk (blk_below (pk BK551.out) hb)
        have n6_ := Aside0.mk (blk_below (pk BK559.out) hb)
        have n7_ := Aside0.mk (blk_below (pk BK567.out) hb)
        have n8_ := Aside0.mk (below_step (pb HB) hb)
        clear HO549 HO557 HO565 BK534 BK551 BK559 BK567 HB
        have HO549 := n0_
        have HO557 := n1_
        have HO565 := n2_
        have HO573 := n3_
        have BK534 := n4_
        have BK551 := n5_
        have BK559 := n6_
        have BK567 := n7_
        have HB := n8_
        clear n0_ n1_ n2_ n3_ n4_ n5_ n6_ n7_ n8_
        (try clear hb)
        (try clear hb2)
        (try clear hk)
        (try clear hi)
        (try clear ho0)
        obtain ⟨Ao95, co95, eo95⟩ := Kd.R_slice HO573.out
        (first | subst eo95 | (injection eo95 with f1_ f2_ f3_; have f4_ := f1_.symm; have f5_ := f3_.symm; clear f1_ f2_ f3_; subst f4_; subst f5_))
        refine hK.out _ _ ⟨ce BK559 0, ce BK559 1, ce BK559 2, ce BK559 3, ce BK567 0, ce BK567 1, ce BK567 2, ce BK567 3⟩ (fun hHeld => ?_)
        clear hK K
        refine nm ?_
        refine on1 10 (fun K hK => ?_)
        refine gs Try.func13 #[.agg #[.int .u64 t552, .int .u64 t553, .int .i64 t554, .slice Ao82 t555.length co82], .agg #[.int .u64 t568, .int .u64 t569, .int .i64 t570, .slice Ao95 t571.length co95]] ?_
        with_reducible refine (samphirelaw14_same.calls kj4 t552 t553 t554 _ _ t555 t568 t569 t570 _ _ t571 true _ ?side1 ?side2 ?side3 ?side4 A66.out).mono ?_
        (case side1 => repeat (first | exact (Kd.V_reads' HO557.out).2.2 | (with_reducible refine Kd.C_alloc ?_ _) | (with_reducible refine Kd.C_drewN ?_ _) | (with_reducible refine Kd.C_drew ?_)))
        (case side2 => exact (Kd.V_reads' HO557.out).2.1)
        (case side3 => repeat (first | exact (Kd.R_reads' HO573.out).2.2 | (with_reducible refine Kd.C_alloc ?_ _) | (with_reducible refine Kd.C_drewN ?_ _) | (with_reducible refine Kd.C_drew ?_)))
        (case side4 => exact (Kd.R_reads' HO573.out).2.1)
        rintro e w96 ⟨rfl, hb⟩
        refine ⟨_, rfl, ?_⟩
        replace HO549 := Aside0.mk (Kd.V_below (pv HO549.out) hb)
        replace HO557 := Aside0.mk (Kd.V_below (pv HO557.out) hb)
        replace HO565 := Aside0.mk (Kd.V_below (pv HO565.out) hb)
        replace HO573 := Aside0.mk (Kd.R_below (pr HO573.out) hb)
        replace BK534 := Aside0.mk (blk_below (pk BK534.out) hb)
        replace BK551 := Aside0.mk (blk_below (pk BK551.out) hb)
        replace BK559 := Aside0.mk (blk_below (pk BK559.out) hb)
        replace BK567 := Aside0.mk (blk_below (pk BK567.out) hb)
        replace HB := Aside0.mk (below_step (pb HB) hb)
        (try clear hb)
        (try clear hb2)
        (try clear hk)
        (try clear hi)
        refine hK.out _ _ ⟨ce BK559 0, ce BK559 1, ce BK559 2, ce BK559 3, ce BK567 0, ce BK567 1, ce BK567 2, ce BK567 3⟩ (fun hHeld => ?_)
        clear hK K
        refine nm ?_
        refine pu 11 ?_
        refine pu 12 ?_
        refine on1 13 (fun K hK => ?_)
        refine gs Try.func11 #[] ?_
        with_reducible refine (samphirelaw14_awake.calls kj4  t575 hrT _ A68.out).mono ?_
        rintro e w97 ⟨rfl, hb⟩
        refine ⟨_, rfl, ?_⟩
        replace HO549 := Aside0.mk (Kd.V_below (pv HO549.out) hb)
        replace HO557 := Aside0.mk (Kd.V_below (pv HO557.out) hb)
        replace HO565 := Aside0.mk (Kd.V_below (pv HO565.out) hb)
        replace HO573 := Aside0.mk (Kd.R_below (pr HO573.out) hb)
        replace BK534 := Aside0.mk (blk_below (pk BK534.out) hb)
        replace BK551 := Aside0.mk (blk_below (pk BK551.out) hb)
        replace BK559 := Aside0.mk (blk_below (pk BK559.out) hb)
        replace BK567 := Aside0.mk (blk_below (pk BK567.out) hb)
        replace HB := Aside0.mk (below_step (pb HB) hb)
        (try clear hb)
        (try clear hb2)
        (try clear hk)
        (try clear hi)
        refine hK.out _ _ ⟨ce BK559 0, ce BK559 1, ce BK559 2, ce BK559 3, ce BK567 0, ce BK567 1, ce BK567 2, ce BK567 3⟩ (fun hHeld => ?_)
        clear hK K
        refine nm ?_
        refine pu 14 ?_
        refine pu 15 ?_
        refine done_ (done_of HT_.out (by kernel_rfl)) ?_
        try go_wp2
        go_ret
        exact ⟨by first | rfl | (simp [errW_none, errW_some] <;> rfl) | (simp [*, errW_none, errW_some] <;> rfl), pb HB⟩
       ·replace c67 := Bool.eq_false_iff.mpr c67
        subst c67
        have H1 : (some false) = some r := by rw [if_neg (show ¬ (false = true) by decide)] at H; exact H
        exact Bool.noConfusion ((Option.some.inj H1).trans hrT.out)
      ·rw [if_neg c64] at H
       exact Bool.noConfusion ((Option.some.inj H).trans hrT.out)
     ·rw [if_neg c63] at H
      exact Bool.noConfusion ((Option.some.inj H).trans hrT.out)
    ·rw [if_neg c62] at H
     have c62b0 : (t566 == 0) = false := beq_eq_false_iff_ne.mpr c62
     have c62b1 : (t566 != 0) = true := bne_iff_ne.mpr c62
     by_cases c176 : t550 = 12
     ·rw [if_pos c176] at H
      have c176b0 : (t550 == 12) = true := beq_iff_eq.mpr c176
      have c176b1 : (t550 != 12) = false := bne_eq_false_iff_eq.mpr c176
      clear c176
      replace H := Option.bind_eq_some_iff.mp H
      obtain ⟨t576, A1770, H⟩ := H
      replace H : (some t576) = some r := H
      have A177 := Aside0.mk A1770
      clear A1770
      obtain rfl := Option.some.inj H
      have hcz178_0 := ce BK534 0
      have hcz178_1 := ce BK534 1
      have hcz178_2 := ce BK534 2
      have hcz178_3 := ce BK534 3
      have hfz178_0 := fz BK534 0
      have hfz178_1 := fz BK534 1
      have hfz178_2 := fz BK534 2
      have hfz178_3 := fz BK534 3
      go_wp2_with (first | ((with_reducible refine gate_callee (f := 17) rfl ?_); refine gl (some 50) Try.func17 #[.agg #[.int .u64 a0_0, .int .u64 a0_1, .int .i64 a0_2, .slice A0_3 l0_3.length c0_3], .string a1, .int .u64 a2] ?_; (with_reducible refine (bottom_Add.calls kj4 a0_0 a0_1 a0_2 (fun k_ => k_ < w.heap.size) _ _ l0_3 a1 a2 t544 t545 t546 t547 t550 _ ?side1 A59.out).mono ?_); (case side1 => exact Kd.V_mk HC0_3.out (Kd.F_below (Kd.C_F k62_heap HR0_3.out) (pb HB))); rintro e w179 ⟨v548, rfl, ho0, hb⟩; refine ⟨_, rfl, ?_⟩; have n0_ := Aside0.mk (Kd.V_lower (Kd.V_mono (ok' := fun k_ => k_ ≠ gb534) ho0 (fun k_ hk_ => Or.elim hk_ (fun hs_ => fun e_ => Nat.not_le.2 hs_ (by rw [e_]; exact GW534.out)) (fun hn_ => (Kd.freshB (g := gb534) (o := .cells #[.int .u64 a0_0, .int .u64 a0_1, .int .i64 a0_2, .slice A0_3 l0_3.length c0_3] 27 (0, 0)) (pk BK534.out) k_ hn_)))) (below_size (pb HB))); have n1_ := Aside0.mk (blk_below (pk BK534.out) hb); have n2_ := Aside0.mk (below_step (pb HB) hb); clear BK534; clear HB; have HO549 := n0_; have BK534 := n1_; have HB := n2_; clear n0_ n1_ n2_; (try clear hb); (try clear hb2); (try clear hk); (try clear hi); (try clear ho0)) | ((with_reducible refine gate_dst (N := 9) rfl ?_); (try (refine gate_guard (by rfl) ?_; dsimp only)); refine box_event ?hg (N := 9) ?hd (cs := #[.int .u64 0, .int .u64 0, .int .i64 0, .slice none 0 0]) (t := 27) ?hr ?_; (case hd => rfl); (case hg => rfl); (case hr => first | (go_simp; done) | (go_simp; rfl)); intro gb551 hg w180 hbox hb; have n0_ := Aside0.mk (Kd.V_below (Kd.V_elderB (pv HO549.out) gb551 (Nat.le_of_eq hg.symm)) hb); have n1_ := Aside0.mk (blk_below (pk BK534.out) hb); have n2_ := Aside0.mk (below_step (pb HB) hb); have n3_ := Aside0.mk (hbox); have n4_ := Aside0.mk ((pg hg HB : w.heap.size ≤ gb551)); have n5_ := Aside0.mk ((pg hg HB : w.heap.size ≤ gb551)); have n6_ := Aside0.mk ((pl hg (pk BK534.out) : gb534 ≠ gb551)); have n7_ := Aside0.mk ((pl' hg (pk BK534.out) : gb551 ≠ gb534)); clear HO549; clear BK534; clear HB; have HO549 := n0_; have BK534 := n1_; have HB := n2_; have BK551 := n3_; have GW551 := n4_; have GE551 := n5_; have NB534_551 := n6_; have NB551_534 := n7_; clear n0_ n1_ n2_ n3_ n4_ n5_ n6_ n7_; clear hb hbox hg; have hnb181 := NB551_534.out; have hnc181 := NB534_551.out; have hcz182_0 := ce BK551 0; have hcz182_1 := ce BK551 1; have hcz182_2 := ce BK551 2; have hcz182_3 := ce BK551 3; have hfz182_0 := fz BK551 0; have hfz182_1 := fz BK551 1; have hfz182_2 := fz BK551 2; have hfz182_3 := fz BK551 3; obtain ⟨Ao183, co183, eo183⟩ := Kd.V_slice HO549.out; subst eo183) | ((with_reducible refine gate_store (t := 27) (p := 9) rfl ?_); refine store_event (t := 27) (p := 9) (v := ?vo_w184) (w1 := ((((w180.setCell ⟨gb551, 0, none⟩ (.int .u64 t544)).setCell ⟨gb551, 1, none⟩ (.int .u64 t545)).setCell ⟨gb551, 2, none⟩ (.int .i64 t546)).setCell ⟨gb551, 3, none⟩ (.slice Ao183 t547.length co183))) ?hg ?ho ?hn ?hr ?_; (case ho => rfl); (case hg => rfl); (case hn => rfl); (case hr => first | (go_simp; done) | (go_simp; rfl)); intro w184 hw; have n0_ : Aside0 (Kd.V k62 62 w184 w.heap.size (fun k_ => k_ ≠ gb534 ∧ k_ ≠ gb551) (.slice Ao183 t547.length co183) t547) := ⟨(by rw [hw]; exact (pv (Kd.V_mono (Kd.V_far (p := ⟨gb551, 3, none⟩) (Kd.V_far (p := ⟨gb551, 2, none⟩) (Kd.V_far (p := ⟨gb551, 1, none⟩) (Kd.V_far (p := ⟨gb551, 0, none⟩) (Kd.V_mono HO549.out (fun k_ hk => (⟨hk, hk.2⟩ : _ ∧ k_ ≠ gb551))) (fun _ hk => hk.2) (.int .u64 t544)) (fun _ hk => hk.2) (.int .u64 t545)) (fun _ hk => hk.2) (.int .i64 t546)) (fun _ hk => hk.2) (.slice Ao183 t547.length co183)) (fun _ hk => ⟨hk.1.1, hk.1.2⟩))))⟩; have n1_ : Aside0 (w184.heap[gb534]? = some (.cells #[.int .u64 a0_0, .int .u64 a0_1, .int .i64 a0_2, .slice A0_3 l0_3.length c0_3] 27 (0, 0))) := ⟨(by rw [hw]; exact (by refine pk ?_; refine blk_far ?_ NB534_551.out _; refine pk ?_; refine blk_far ?_ NB534_551.out _; refine pk ?_; refine blk_far ?_ NB534_551.out _; refine pk ?_; refine blk_far ?_ NB534_551.out _; refine pk ?_; exact BK534.out))⟩; have n2_ : Aside0 (w184.heap[gb551]? = some (.cells #[.int .u64 t544, .int .u64 t545, .int .i64 t546, .slice Ao183 t547.length co183] 27 (0, 0))) := ⟨(by rw [hw]; exact (by refine pk ?_; refine blk_put (cs := #[.int .u64 t544, .int .u64 t545, .int .i64 t546, .slice none 0 0]) ?_ 3 _ rfl; refine pk ?_; refine blk_put (cs := #[.int .u64 t544, .int .u64 t545, .int .i64 0, .slice none 0 0]) ?_ 2 _ rfl; refine pk ?_; refine blk_put (cs := #[.int .u64 t544, .int .u64 0, .int .i64 0, .slice none 0 0]) ?_ 1 _ rfl; refine pk ?_; refine blk_put (cs := #[.int .u64 0, .int .u64 0, .int .i64 0, .slice none 0 0]) ?_ 0 _ rfl; refine pk ?_; exact BK551.out))⟩; have n3_ : Aside0 (Below w.heap.size w w184) := ⟨(by rw [hw]; exact (pb HB))⟩; clear hw; clear HO549; clear BK534; clear BK551; clear HB; have HO549 := n0_; have BK534 := n1_; have BK551 := n2_; have HB := n3_; clear n0_ n1_ n2_ n3_; have hcz185_0 := ce BK551 0; have hcz185_1 := ce BK551 1; have hcz185_2 := ce BK551 2; have hcz185_3 := ce BK551 3; have hfz185_0 := fz BK551 0; have hfz185_1 := fz BK551 1; have hfz185_2 := fz BK551 2; have hfz185_3 := fz BK551 3) | ((with_reducible refine gate_callee (f := 17) rfl ?_); refine gl (some 57) Try.func17 #[.agg #[.int .u64 t544, .int .u64 t545, .int .i64 t546, .slice Ao183 t547.length co183], .string a1, .int .u64 a3] ?_; (with_reducible refine (bottom_Add.calls kj4 t544 t545 t546 (fun k_ => (k_ ≠ gb534 ∧ k_ ≠ gb551)) _ _ t547 a1 a3 t552 t553 t554 t555 t558 _ ?side1 A60.out).mono ?_); (case side1 => exact HO549.out); rintro e w186 ⟨v556, rfl, ho0, hb⟩; refine ⟨_, rfl, ?_⟩; have n0_ := Aside0.mk (Kd.V_below (pv HO549.out) hb); have n1_ := Aside0.mk (Kd.V_lower (Kd.V_mono (ok' := fun k_ => k_ ≠ gb534 ∧ k_ ≠ gb551) ho0 (fun k_ hk_ => ⟨Or.elim hk_ (fun hs_ => hs_.1) (fun hn_ => (Kd.freshB (g := gb534) (o := .cells #[.int .u64 a0_0, .int .u64 a0_1, .int .i64 a0_2, .slice A0_3 l0_3.length c0_3] 27 (0, 0)) (pk BK534.out) k_ hn_)), Or.elim hk_ (fun hs_ => hs_.2) (fun hn_ => (Kd.freshB (g := gb551) (o := .cells #[.int .u64 t544, .int .u64 t545, .int .i64 t546, .slice Ao183 t547.length co183] 27 (0, 0)) (pk BK551.out) k_ hn_))⟩)) (below_size (pb HB))); have n2_ := Aside0.mk (blk_below (pk BK534.out) hb); have n3_ := Aside0.mk (blk_below (pk BK551.out) hb); have n4_ := Aside0.mk (below_step (pb HB) hb); clear HO549; clear BK534; clear BK551; clear HB; have HO549 := n0_; have HO557 := n1_; have BK534 := n2_; have BK551 := n3_; have HB := n4_; clear n0_ n1_ n2_ n3_ n4_; (try clear hb); (try clear hb2); (try clear hk); (try clear hi); (try clear ho0)) | ((with_reducible refine gate_dst (N := 11) rfl ?_); (try (refine gate_guard (by rfl) ?_; dsimp only)); refine box_event ?hg (N := 11) ?hd (cs := #[.int .u64 0, .int .u64 0, .int .i64 0, .slice none 0 0]) (t := 27) ?hr ?_; (case hd => rfl); (case hg => rfl); (case hr => first | (go_simp; done) | (go_simp; rfl)); intro gb559 hg w187 hbox hb; have n0_ := Aside0.mk (Kd.V_below (Kd.V_elderB (pv HO549.out) gb559 (Nat.le_of_eq hg.symm)) hb); have n1_ := Aside0.mk (Kd.V_below (Kd.V_elderB (pv HO557.out) gb559 (Nat.le_of_eq hg.symm)) hb); have n2_ := Aside0.mk (blk_below (pk BK534.out) hb); have n3_ := Aside0.mk (blk_below (pk BK551.out) hb); have n4_ := Aside0.mk (below_step (pb HB) hb); have n5_ := Aside0.mk (hbox); have n6_ := Aside0.mk ((pg hg HB : w.heap.size ≤ gb559)); have n7_ := Aside0.mk ((pg hg HB : w.heap.size ≤ gb559)); have n8_ := Aside0.mk ((pl hg (pk BK534.out) : gb534 ≠ gb559)); have n9_ := Aside0.mk ((pl' hg (pk BK534.out) : gb559 ≠ gb534)); have n10_ := Aside0.mk ((pl hg (pk BK551.out) : gb551 ≠ gb559)); have n11_ := Aside0.mk ((pl' hg (pk BK551.out) : gb559 ≠ gb551)); clear HO549; clear HO557; clear BK534; clear BK551; clear HB; have HO549 := n0_; have HO557 := n1_; have BK534 := n2_; have BK551 := n3_; have HB := n4_; have BK559 := n5_; have GW559 := n6_; have GE559 := n7_; have NB534_559 := n8_; have NB559_534 := n9_; have NB551_559 := n10_; have NB559_551 := n11_; clear n0_ n1_ n2_ n3_ n4_ n5_ n6_ n7_ n8_ n9_ n10_ n11_; clear hb hbox hg; have hnb188 := NB559_534.out; have hnc188 := NB534_559.out; have hnb189 := NB559_551.out; have hnc189 := NB551_559.out; have hcz190_0 := ce BK559 0; have hcz190_1 := ce BK559 1; have hcz190_2 := ce BK559 2; have hcz190_3 := ce BK559 3; have hfz190_0 := fz BK559 0; have hfz190_1 := fz BK559 1; have hfz190_2 := fz BK559 2; have hfz190_3 := fz BK559 3; obtain ⟨Ao191, co191, eo191⟩ := Kd.V_slice HO557.out; subst eo191) | ((with_reducible refine gate_store (t := 27) (p := 11) rfl ?_); refine store_event (t := 27) (p := 11) (v := ?vo_w192) (w1 := ((((w187.setCell ⟨gb559, 0, none⟩ (.int .u64 t552)).setCell ⟨gb559, 1, none⟩ (.int .u64 t553)).setCell ⟨gb559, 2, none⟩ (.int .i64 t554)).setCell ⟨gb559, 3, none⟩ (.slice Ao191 t555.length co191))) ?hg ?ho ?hn ?hr ?_; (case ho => rfl); (case hg => rfl); (case hn => rfl); (case hr => first | (go_simp; done) | (go_simp; rfl)); intro w192 hw; have n0_ : Aside0 (Kd.V k62 62 w192 w.heap.size (fun k_ => k_ ≠ gb534 ∧ k_ ≠ gb551 ∧ k_ ≠ gb559) (.slice Ao183 t547.length co183) t547) := ⟨(by rw [hw]; exact (pv (Kd.V_mono (Kd.V_far (p := ⟨gb559, 3, none⟩) (Kd.V_far (p := ⟨gb559, 2, none⟩) (Kd.V_far (p := ⟨gb559, 1, none⟩) (Kd.V_far (p := ⟨gb559, 0, none⟩) (Kd.V_mono HO549.out (fun k_ hk => (⟨hk, hk.2⟩ : _ ∧ k_ ≠ gb559))) (fun _ hk => hk.2) (.int .u64 t552)) (fun _ hk => hk.2) (.int .u64 t553)) (fun _ hk => hk.2) (.int .i64 t554)) (fun _ hk => hk.2) (.slice Ao191 t555.length co191)) (fun _ hk => ⟨hk.1.1.1, ⟨hk.1.1.2, hk.1.2⟩⟩))))⟩; have n1_ : Aside0 (Kd.V k62 62 w192 w.heap.size (fun k_ => k_ ≠ gb534 ∧ k_ ≠ gb551 ∧ k_ ≠ gb559) (.slice Ao191 t555.length co191) t555) := ⟨(by rw [hw]; exact (pv (Kd.V_mono (Kd.V_far (p := ⟨gb559, 3, none⟩) (Kd.V_far (p := ⟨gb559, 2, none⟩) (Kd.V_far (p := ⟨gb559, 1, none⟩) (Kd.V_far (p := ⟨gb559, 0, none⟩) (Kd.V_mono HO557.out (fun k_ hk => (⟨hk, hk.2⟩ : _ ∧ k_ ≠ gb559))) (fun _ hk => hk.2) (.int .u64 t552)) (fun _ hk => hk.2) (.int .u64 t553)) (fun _ hk => hk.2) (.int .i64 t554)) (fun _ hk => hk.2) (.slice Ao191 t555.length co191)) (fun _ hk => ⟨hk.1.1.1, ⟨hk.1.1.2, hk.1.2⟩⟩))))⟩; have n2_ : Aside0 (w192.heap[gb534]? = some (.cells #[.int .u64 a0_0, .int .u64 a0_1, .int .i64 a0_2, .slice A0_3 l0_3.length c0_3] 27 (0, 0))) := ⟨(by rw [hw]; exact (by refine pk ?_; refine blk_far ?_ NB534_559.out _; refine pk ?_; refine blk_far ?_ NB534_559.out _; refine pk ?_; refine blk_far ?_ NB534_559.out _; refine pk ?_; refine blk_far ?_ NB534_559.out _; refine pk ?_; exact BK534.out))⟩; have n3_ : Aside0 (w192.heap[gb551]? = some (.cells #[.int .u64 t544, .int .u64 t545, .int .i64 t546, .slice Ao183 t547.length co183] 27 (0, 0))) := ⟨(by rw [hw]; exact (by refine pk ?_; refine blk_far ?_ NB551_559.out _; refine pk ?_; refine blk_far ?_ NB551_559.out _; refine pk ?_; refine blk_far ?_ NB551_559.out _; refine pk ?_; refine blk_far ?_ NB551_559.out _; refine pk ?_; exact BK551.out))⟩; have n4_ : Aside0 (w192.heap[gb559]? = some (.cells #[.int .u64 t552, .int .u64 t553, .int .i64 t554, .slice Ao191 t555.length co191] 27 (0, 0))) := ⟨(by rw [hw]; exact (by refine pk ?_; refine blk_put (cs := #[.int .u64 t552, .int .u64 t553, .int .i64 t554, .slice none 0 0]) ?_ 3 _ rfl; refine pk ?_; refine blk_put (cs := #[.int .u64 t552, .int .u64 t553, .int .i64 0, .slice none 0 0]) ?_ 2 _ rfl; refine pk ?_; refine blk_put (cs := #[.int .u64 t552, .int .u64 0, .int .i64 0, .slice none 0 0]) ?_ 1 _ rfl; refine pk ?_; refine blk_put (cs := #[.int .u64 0, .int .u64 0, .int .i64 0, .slice none 0 0]) ?_ 0 _ rfl; refine pk ?_; exact BK559.out))⟩; have n5_ : Aside0 (Below w.heap.size w w192) := ⟨(by rw [hw]; exact (pb HB))⟩; clear hw; clear HO549; clear HO557; clear BK534; clear BK551; clear BK559; clear HB; have HO549 := n0_; have HO557 := n1_; have BK534 := n2_; have BK551 := n3_; have BK559 := n4_; have HB := n5_; clear n0_ n1_ n2_ n3_ n4_ n5_; have hcz193_0 := ce BK534 0; have hcz193_1 := ce BK534 1; have hcz193_2 := ce BK534 2; have hcz193_3 := ce BK534 3; have hfz193_0 := fz BK534 0; have hfz193_1 := fz BK534 1; have hfz193_2 := fz BK534 2; have hfz193_3 := fz BK534 3) | ((with_reducible refine gate_callee (f := 17) rfl ?_); refine gl (some 66) Try.func17 #[.agg #[.int .u64 a0_0, .int .u64 a0_1, .int .i64 a0_2, .slice A0_3 l0_3.length c0_3], .string a1, .int .u64 (IntKind.u64.wrap (a2 + a3))] ?_; (with_reducible refine (bottom_Add.calls kj4 a0_0 a0_1 a0_2 (fun k_ => k_ < w.heap.size) _ _ l0_3 a1 (IntKind.u64.wrap (a2 + a3)) t560 t561 t562 t563 t566 _ ?side1 A61.out).mono ?_); (case side1 => exact Kd.V_mk HC0_3.out (Kd.F_below (Kd.C_F k62_heap HR0_3.out) (pb HB))); rintro e w194 ⟨v564, rfl, ho0, hb⟩; refine ⟨_, rfl, ?_⟩; have n0_ := Aside0.mk (Kd.V_below (pv HO549.out) hb); have n1_ := Aside0.mk (Kd.V_below (pv HO557.out) hb); have n2_ := Aside0.mk (Kd.V_lower (Kd.V_mono (ok' := fun k_ => k_ ≠ gb534 ∧ k_ ≠ gb551 ∧ k_ ≠ gb559) ho0 (fun k_ hk_ => ⟨Or.elim hk_ (fun hs_ => fun e_ => Nat.not_le.2 hs_ (by rw [e_]; exact GW534.out)) (fun hn_ => (Kd.freshB (g := gb534) (o := .cells #[.int .u64 a0_0, .int .u64 a0_1, .int .i64 a0_2, .slice A0_3 l0_3.length c0_3] 27 (0, 0)) (pk BK534.out) k_ hn_)), Or.elim hk_ (fun hs_ => fun e_ => Nat.not_le.2 hs_ (by rw [e_]; exact GW551.out)) (fun hn_ => (Kd.freshB (g := gb551) (o := .cells #[.int .u64 t544, .int .u64 t545, .int .i64 t546, .slice Ao183 t547.length co183] 27 (0, 0)) (pk BK551.out) k_ hn_)), Or.elim hk_ (fun hs_ => fun e_ => Nat.not_le.2 hs_ (by rw [e_]; exact GW559.out)) (fun hn_ => (Kd.freshB (g := gb559) (o := .cells #[.int .u64 t552, .int .u64 t553, .int .i64 t554, .slice Ao191 t555.length co191] 27 (0, 0)) (pk BK559.out) k_ hn_))⟩)) (below_size (pb HB))); have n3_ := Aside0.mk (blk_below (pk BK534.out) hb); have n4_ := Aside0.mk (blk_below (pk BK551.out) hb); have n5_ := Aside0.mk (blk_below (pk BK559.out) hb); have n6_ := Aside0.mk (below_step (pb HB) hb); clear HO549; clear HO557; clear BK534; clear BK551; clear BK559; clear HB; have HO549 := n0_; have HO557 := n1_; have HO565 := n2_; have BK534 := n3_; have BK551 := n4_; have BK559 := n5_; have HB := n6_; clear n0_ n1_ n2_ n3_ n4_ n5_ n6_; (try clear hb); (try clear hb2); (try clear hk); (try clear hi); (try clear ho0)) | ((with_reducible refine gate_dst (N := 13) rfl ?_); (try (refine gate_guard (by rfl) ?_; dsimp only)); refine box_event ?hg (N := 13) ?hd (cs := #[.int .u64 0, .int .u64 0, .int .i64 0, .slice none 0 0]) (t := 27) ?hr ?_; (case hd => rfl); (case hg => rfl); (case hr => first | (go_simp; done) | (go_simp; rfl)); intro gb567 hg w195 hbox hb; have n0_ := Aside0.mk (Kd.V_below (Kd.V_elderB (pv HO549.out) gb567 (Nat.le_of_eq hg.symm)) hb); have n1_ := Aside0.mk (Kd.V_below (Kd.V_elderB (pv HO557.out) gb567 (Nat.le_of_eq hg.symm)) hb); have n2_ := Aside0.mk (Kd.V_below (Kd.V_elderB (pv HO565.out) gb567 (Nat.le_of_eq hg.symm)) hb); have n3_ := Aside0.mk (blk_below (pk BK534.out) hb); have n4_ := Aside0.mk (blk_below (pk BK551.out) hb); have n5_ := Aside0.mk (blk_below (pk BK559.out) hb); have n6_ := Aside0.mk (below_step (pb HB) hb); have n7_ := Aside0.mk (hbox); have n8_ := Aside0.mk ((pg hg HB : w.heap.size ≤ gb567)); have n9_ := Aside0.mk ((pg hg HB : w.heap.size ≤ gb567)); have n10_ := Aside0.mk ((pl hg (pk BK534.out) : gb534 ≠ gb567)); have n11_ := Aside0.mk ((pl' hg (pk BK534.out) : gb567 ≠ gb534)); have n12_ := Aside0.mk ((pl hg (pk BK551.out) : gb551 ≠ gb567)); have n13_ := Aside0.mk ((pl' hg (pk BK551.out) : gb567 ≠ gb551)); have n14_ := Aside0.mk ((pl hg (pk BK559.out) : gb559 ≠ gb567)); have n15_ := Aside0.mk ((pl' hg (pk BK559.out) : gb567 ≠ gb559)); clear HO549; clear HO557; clear HO565; clear BK534; clear BK551; clear BK559; clear HB; have HO549 := n0_; have HO557 := n1_; have HO565 := n2_; have BK534 := n3_; have BK551 := n4_; have BK559 := n5_; have HB := n6_; have BK567 := n7_; have GW567 := n8_; have GE567 := n9_; have NB534_567 := n10_; have NB567_534 := n11_; have NB551_567 := n12_; have NB567_551 := n13_; have NB559_567 := n14_; have NB567_559 := n15_; clear n0_ n1_ n2_ n3_ n4_ n5_ n6_ n7_ n8_ n9_ n10_ n11_ n12_ n13_ n14_ n15_; clear hb hbox hg; have hnb196 := NB567_534.out; have hnc196 := NB534_567.out; have hnb197 := NB567_551.out; have hnc197 := NB551_567.out; have hnb198 := NB567_559.out; have hnc198 := NB559_567.out; have hcz199_0 := ce BK567 0; have hcz199_1 := ce BK567 1; have hcz199_2 := ce BK567 2; have hcz199_3 := ce BK567 3; have hfz199_0 := fz BK567 0; have hfz199_1 := fz BK567 1; have hfz199_2 := fz BK567 2; have hfz199_3 := fz BK567 3; obtain ⟨Ao200, co200, eo200⟩ := Kd.V_slice HO565.out; subst eo200) | (go_at_call 11; (with_reducible refine (samphirelaw14_awake.calls kj4  t576 hrT _ A177.out).mono ?_); rintro e w201 ⟨rfl, hb⟩; replace HO549 := Aside0.mk (Kd.V_below (pv ((Kd.V_mono (Kd.V_far (p := ⟨gb567, 3, none⟩) (Kd.V_far (p := ⟨gb567, 2, none⟩) (Kd.V_far (p := ⟨gb567, 1, none⟩) (Kd.V_far (p := ⟨gb567, 0, none⟩) (Kd.V_mono HO549.out (fun k_ hk => (⟨hk, hk.2⟩ : _ ∧ k_ ≠ gb567))) (fun _ hk => hk.2) (.int .u64 t560)) (fun _ hk => hk.2) (.int .u64 t561)) (fun _ hk => hk.2) (.int .i64 t562)) (fun _ hk => hk.2) (.slice Ao200 t563.length co200)) (fun _ h_ => h_.1)))) hb); replace HO557 := Aside0.mk (Kd.V_below (pv ((Kd.V_mono (Kd.V_far (p := ⟨gb567, 3, none⟩) (Kd.V_far (p := ⟨gb567, 2, none⟩) (Kd.V_far (p := ⟨gb567, 1, none⟩) (Kd.V_far (p := ⟨gb567, 0, none⟩) (Kd.V_mono HO557.out (fun k_ hk => (⟨hk, hk.2⟩ : _ ∧ k_ ≠ gb567))) (fun _ hk => hk.2) (.int .u64 t560)) (fun _ hk => hk.2) (.int .u64 t561)) (fun _ hk => hk.2) (.int .i64 t562)) (fun _ hk => hk.2) (.slice Ao200 t563.length co200)) (fun _ h_ => h_.1)))) hb); replace HO565 := Aside0.mk (Kd.V_below (pv ((Kd.V_mono (Kd.V_far (p := ⟨gb567, 3, none⟩) (Kd.V_far (p := ⟨gb567, 2, none⟩) (Kd.V_far (p := ⟨gb567, 1, none⟩) (Kd.V_far (p := ⟨gb567, 0, none⟩) (Kd.V_mono HO565.out (fun k_ hk => (⟨hk, hk.2⟩ : _ ∧ k_ ≠ gb567))) (fun _ hk => hk.2) (.int .u64 t560)) (fun _ hk => hk.2) (.int .u64 t561)) (fun _ hk => hk.2) (.int .i64 t562)) (fun _ hk => hk.2) (.slice Ao200 t563.length co200)) (fun _ h_ => h_.1)))) hb); replace BK534 := Aside0.mk (blk_below (g := gb534) (o := .cells #[.int .u64 a0_0, .int .u64 a0_1, .int .i64 a0_2, .slice A0_3 l0_3.length c0_3] 27 (0, 0)) (by refine pk ?_; refine blk_far ?_ NB534_567.out _; refine pk ?_; refine blk_far ?_ NB534_567.out _; refine pk ?_; refine blk_far ?_ NB534_567.out _; refine pk ?_; refine blk_far ?_ NB534_567.out _; refine pk ?_; exact BK534.out) hb); replace BK551 := Aside0.mk (blk_below (g := gb551) (o := .cells #[.int .u64 t544, .int .u64 t545, .int .i64 t546, .slice Ao183 t547.length co183] 27 (0, 0)) (by refine pk ?_; refine blk_far ?_ NB551_567.out _; refine pk ?_; refine blk_far ?_ NB551_567.out _; refine pk ?_; refine blk_far ?_ NB551_567.out _; refine pk ?_; refine blk_far ?_ NB551_567.out _; refine pk ?_; exact BK551.out) hb); replace BK559 := Aside0.mk (blk_below (g := gb559) (o := .cells #[.int .u64 t552, .int .u64 t553, .int .i64 t554, .slice Ao191 t555.length co191] 27 (0, 0)) (by refine pk ?_; refine blk_far ?_ NB559_567.out _; refine pk ?_; refine blk_far ?_ NB559_567.out _; refine pk ?_; refine blk_far ?_ NB559_567.out _; refine pk ?_; refine blk_far ?_ NB559_567.out _; refine pk ?_; exact BK559.out) hb); replace BK567 := Aside0.mk (blk_below (g := gb567) (o := .cells #[.int .u64 t560, .int .u64 t561, .int .i64 t562, .slice Ao200 t563.length co200] 27 (0, 0)) (by refine pk ?_; refine blk_put (cs := #[.int .u64 t560, .int .u64 t561, .int .i64 t562, .slice none 0 0]) ?_ 3 _ rfl; refine pk ?_; refine blk_put (cs := #[.int .u64 t560, .int .u64 t561, .int .i64 0, .slice none 0 0]) ?_ 2 _ rfl; refine pk ?_; refine blk_put (cs := #[.int .u64 t560, .int .u64 0, .int .i64 0, .slice none 0 0]) ?_ 1 _ rfl; refine pk ?_; refine blk_put (cs := #[.int .u64 0, .int .u64 0, .int .i64 0, .slice none 0 0]) ?_ 0 _ rfl; refine pk ?_; exact BK567.out) hb); replace HB := Aside0.mk (below_step (pb HB) hb); (try clear hb); (try clear hb2); (try clear hk); (try clear hi)))
      go_ret
      exact ⟨by first | rfl | (simp [errW_none, errW_some] <;> rfl) | (simp [*, errW_none, errW_some] <;> rfl), pb HB⟩
     ·rw [if_neg c176] at H
      have c176b0 : (t550 == 12) = false := beq_eq_false_iff_ne.mpr c176
      have c176b1 : (t550 != 12) = true := bne_iff_ne.mpr c176
      by_cases c202 : t558 = 12
      ·rw [if_pos c202] at H
       have c202b0 : (t558 == 12) = true := beq_iff_eq.mpr c202
       have c202b1 : (t558 != 12) = false := bne_eq_false_iff_eq.mpr c202
       clear c202
       replace H := Option.bind_eq_some_iff.mp H
       obtain ⟨t577, A2030, H⟩ := H
       replace H : (some t577) = some r := H
       have A203 := Aside0.mk A2030
       clear A2030
       obtain rfl := Option.some.inj H
       have hcz204_0 := ce BK534 0
       have hcz204_1 := ce BK534 1
       have hcz204_2 := ce BK534 2
       have hcz204_3 := ce BK534 3
       have hfz204_0 := fz BK534 0
       have hfz204_1 := fz BK534 1
       have hfz204_2 := fz BK534 2
       have hfz204_3 := fz BK534 3
       go_wp2_with (first | ((with_reducible refine gate_callee (f := 17) rfl ?_); refine gl (some 50) Try.func17 #[.agg #[.int .u64 a0_0, .int .u64 a0_1, .int .i64 a0_2, .slice A0_3 l0_3.length c0_3], .string a1, .int .u64 a2] ?_; (with_reducible refine (bottom_Add.calls kj4 a0_0 a0_1 a0_2 (fun k_ => k_ < w.heap.size) _ _ l0_3 a1 a2 t544 t545 t546 t547 t550 _ ?side1 A59.out).mono ?_); (case side1 => exact Kd.V_mk HC0_3.out (Kd.F_below (Kd.C_F k62_heap HR0_3.out) (pb HB))); rintro e w205 ⟨v548, rfl, ho0, hb⟩; refine ⟨_, rfl, ?_⟩; have n0_ := Aside0.mk (Kd.V_lower (Kd.V_mono (ok' := fun k_ => k_ ≠ gb534) ho0 (fun k_ hk_ => Or.elim hk_ (fun hs_ => fun e_ => Nat.not_le.2 hs_ (by rw [e_]; exact GW534.out)) (fun hn_ => (Kd.freshB (g := gb534) (o := .cells #[.int .u64 a0_0, .int .u64 a0_1, .int .i64 a0_2, .slice A0_3 l0_3.length c0_3] 27 (0, 0)) (pk BK534.out) k_ hn_)))) (below_size (pb HB))); have n1_ := Aside0.mk (blk_below (pk BK534.out) hb); have n2_ := Aside0.mk (below_step (pb HB) hb); clear BK534; clear HB; have HO549 := n0_; have BK534 := n1_; have HB := n2_; clear n0_ n1_ n2_; (try clear hb); (try clear hb2); (try clear hk); (try clear hi); (try clear ho0)) | ((with_reducible refine gate_dst (N := 9) rfl ?_); (try (refine gate_guard (by rfl) ?_; dsimp only)); refine box_event ?hg (N := 9) ?hd (cs := #[.int .u64 0, .int .u64 0, .int .i64 0, .slice none 0 0]) (t := 27) ?hr ?_; (case hd => rfl); (case hg => rfl); (case hr => first | (go_simp; done) | (go_simp; rfl)); intro gb551 hg w206 hbox hb; have n0_ := Aside0.mk (Kd.V_below (Kd.V_elderB (pv HO549.out) gb551 (Nat.le_of_eq hg.symm)) hb); have n1_ := Aside0.mk (blk_below (pk BK534.out) hb); have n2_ := Aside0.mk (below_step (pb HB) hb); have n3_ := Aside0.mk (hbox); have n4_ := Aside0.mk ((pg hg HB : w.heap.size ≤ gb551)); have n5_ := Aside0.mk ((pg hg HB : w.heap.size ≤ gb551)); have n6_ := Aside0.mk ((pl hg (pk BK534.out) : gb534 ≠ gb551)); have n7_ := Aside0.mk ((pl' hg (pk BK534.out) : gb551 ≠ gb534)); clear HO549; clear BK534; clear HB; have HO549 := n0_; have BK534 := n1_; have HB := n2_; have BK551 := n3_; have GW551 := n4_; have GE551 := n5_; have NB534_551 := n6_; have NB551_534 := n7_; clear n0_ n1_ n2_ n3_ n4_ n5_ n6_ n7_; clear hb hbox hg; have hnb207 := NB551_534.out; have hnc207 := NB534_551.out; have hcz208_0 := ce BK551 0; have hcz208_1 := ce BK551 1; have hcz208_2 := ce BK551 2; have hcz208_3 := ce BK551 3; have hfz208_0 := fz BK551 0; have hfz208_1 := fz BK551 1; have hfz208_2 := fz BK551 2; have hfz208_3 := fz BK551 3; obtain ⟨Ao209, co209, eo209⟩ := Kd.V_slice HO549.out; subst eo209) | ((with_reducible refine gate_store (t := 27) (p := 9) rfl ?_); refine store_event (t := 27) (p := 9) (v := ?vo_w210) (w1 := ((((w206.setCell ⟨gb551, 0, none⟩ (.int .u64 t544)).setCell ⟨gb551, 1, none⟩ (.int .u64 t545)).setCell ⟨gb551, 2, none⟩ (.int .i64 t546)).setCell ⟨gb551, 3, none⟩ (.slice Ao209 t547.length co209))) ?hg ?ho ?hn ?hr ?_; (case ho => rfl); (case hg => rfl); (case hn => rfl); (case hr => first | (go_simp; done) | (go_simp; rfl)); intro w210 hw; have n0_ : Aside0 (Kd.V k62 62 w210 w.heap.size (fun k_ => k_ ≠ gb534 ∧ k_ ≠ gb551) (.slice Ao209 t547.length co209) t547) := ⟨(by rw [hw]; exact (pv (Kd.V_mono (Kd.V_far (p := ⟨gb551, 3, none⟩) (Kd.V_far (p := ⟨gb551, 2, none⟩) (Kd.V_far (p := ⟨gb551, 1, none⟩) (Kd.V_far (p := ⟨gb551, 0, none⟩) (Kd.V_mono HO549.out (fun k_ hk => (⟨hk, hk.2⟩ : _ ∧ k_ ≠ gb551))) (fun _ hk => hk.2) (.int .u64 t544)) (fun _ hk => hk.2) (.int .u64 t545)) (fun _ hk => hk.2) (.int .i64 t546)) (fun _ hk => hk.2) (.slice Ao209 t547.length co209)) (fun _ hk => ⟨hk.1.1, hk.1.2⟩))))⟩; have n1_ : Aside0 (w210.heap[gb534]? = some (.cells #[.int .u64 a0_0, .int .u64 a0_1, .int .i64 a0_2, .slice A0_3 l0_3.length c0_3] 27 (0, 0))) := ⟨(by rw [hw]; exact (by refine pk ?_; refine blk_far ?_ NB534_551.out _; refine pk ?_; refine blk_far ?_ NB534_551.out _; refine pk ?_; refine blk_far ?_ NB534_551.out _; refine pk ?_; refine blk_far ?_ NB534_551.out _; refine pk ?_; exact BK534.out))⟩; have n2_ : Aside0 (w210.heap[gb551]? = some (.cells #[.int .u64 t544, .int .u64 t545, .int .i64 t546, .slice Ao209 t547.length co209] 27 (0, 0))) := ⟨(by rw [hw]; exact (by refine pk ?_; refine blk_put (cs := #[.int .u64 t544, .int .u64 t545, .int .i64 t546, .slice none 0 0]) ?_ 3 _ rfl; refine pk ?_; refine blk_put (cs := #[.int .u64 t544, .int .u64 t545, .int .i64 0, .slice none 0 0]) ?_ 2 _ rfl; refine pk ?_; refine blk_put (cs := #[.int .u64 t544, .int .u64 0, .int .i64 0, .slice none 0 0]) ?_ 1 _ rfl; refine pk ?_; refine blk_put (cs := #[.int .u64 0, .int .u64 0, .int .i64 0, .slice none 0 0]) ?_ 0 _ rfl; refine pk ?_; exact BK551.out))⟩; have n3_ : Aside0 (Below w.heap.size w w210) := ⟨(by rw [hw]; exact (pb HB))⟩; clear hw; clear HO549; clear BK534; clear BK551; clear HB; have HO549 := n0_; have BK534 := n1_; have BK551 := n2_; have HB := n3_; clear n0_ n1_ n2_ n3_; have hcz211_0 := ce BK551 0; have hcz211_1 := ce BK551 1; have hcz211_2 := ce BK551 2; have hcz211_3 := ce BK551 3; have hfz211_0 := fz BK551 0; have hfz211_1 := fz BK551 1; have hfz211_2 := fz BK551 2; have hfz211_3 := fz BK551 3) | ((with_reducible refine gate_callee (f := 17) rfl ?_); refine gl (some 57) Try.func17 #[.agg #[.int .u64 t544, .int .u64 t545, .int .i64 t546, .slice Ao209 t547.length co209], .string a1, .int .u64 a3] ?_; (with_reducible refine (bottom_Add.calls kj4 t544 t545 t546 (fun k_ => (k_ ≠ gb534 ∧ k_ ≠ gb551)) _ _ t547 a1 a3 t552 t553 t554 t555 t558 _ ?side1 A60.out).mono ?_); (case side1 => exact HO549.out); rintro e w212 ⟨v556, rfl, ho0, hb⟩; refine ⟨_, rfl, ?_⟩; have n0_ := Aside0.mk (Kd.V_below (pv HO549.out) hb); have n1_ := Aside0.mk (Kd.V_lower (Kd.V_mono (ok' := fun k_ => k_ ≠ gb534 ∧ k_ ≠ gb551) ho0 (fun k_ hk_ => ⟨Or.elim hk_ (fun hs_ => hs_.1) (fun hn_ => (Kd.freshB (g := gb534) (o := .cells #[.int .u64 a0_0, .int .u64 a0_1, .int .i64 a0_2, .slice A0_3 l0_3.length c0_3] 27 (0, 0)) (pk BK534.out) k_ hn_)), Or.elim hk_ (fun hs_ => hs_.2) (fun hn_ => (Kd.freshB (g := gb551) (o := .cells #[.int .u64 t544, .int .u64 t545, .int .i64 t546, .slice Ao209 t547.length co209] 27 (0, 0)) (pk BK551.out) k_ hn_))⟩)) (below_size (pb HB))); have n2_ := Aside0.mk (blk_below (pk BK534.out) hb); have n3_ := Aside0.mk (blk_below (pk BK551.out) hb); have n4_ := Aside0.mk (below_step (pb HB) hb); clear HO549; clear BK534; clear BK551; clear HB; have HO549 := n0_; have HO557 := n1_; have BK534 := n2_; have BK551 := n3_; have HB := n4_; clear n0_ n1_ n2_ n3_ n4_; (try clear hb); (try clear hb2); (try clear hk); (try clear hi); (try clear ho0)) | ((with_reducible refine gate_dst (N := 11) rfl ?_); (try (refine gate_guard (by rfl) ?_; dsimp only)); refine box_event ?hg (N := 11) ?hd (cs := #[.int .u64 0, .int .u64 0, .int .i64 0, .slice none 0 0]) (t := 27) ?hr ?_; (case hd => rfl); (case hg => rfl); (case hr => first | (go_simp; done) | (go_simp; rfl)); intro gb559 hg w213 hbox hb; have n0_ := Aside0.mk (Kd.V_below (Kd.V_elderB (pv HO549.out) gb559 (Nat.le_of_eq hg.symm)) hb); have n1_ := Aside0.mk (Kd.V_below (Kd.V_elderB (pv HO557.out) gb559 (Nat.le_of_eq hg.symm)) hb); have n2_ := Aside0.mk (blk_below (pk BK534.out) hb); have n3_ := Aside0.mk (blk_below (pk BK551.out) hb); have n4_ := Aside0.mk (below_step (pb HB) hb); have n5_ := Aside0.mk (hbox); have n6_ := Aside0.mk ((pg hg HB : w.heap.size ≤ gb559)); have n7_ := Aside0.mk ((pg hg HB : w.heap.size ≤ gb559)); have n8_ := Aside0.mk ((pl hg (pk BK534.out) : gb534 ≠ gb559)); have n9_ := Aside0.mk ((pl' hg (pk BK534.out) : gb559 ≠ gb534)); have n10_ := Aside0.mk ((pl hg (pk BK551.out) : gb551 ≠ gb559)); have n11_ := Aside0.mk ((pl' hg (pk BK551.out) : gb559 ≠ gb551)); clear HO549; clear HO557; clear BK534; clear BK551; clear HB; have HO549 := n0_; have HO557 := n1_; have BK534 := n2_; have BK551 := n3_; have HB := n4_; have BK559 := n5_; have GW559 := n6_; have GE559 := n7_; have NB534_559 := n8_; have NB559_534 := n9_; have NB551_559 := n10_; have NB559_551 := n11_; clear n0_ n1_ n2_ n3_ n4_ n5_ n6_ n7_ n8_ n9_ n10_ n11_; clear hb hbox hg; have hnb214 := NB559_534.out; have hnc214 := NB534_559.out; have hnb215 := NB559_551.out; have hnc215 := NB551_559.out; have hcz216_0 := ce BK559 0; have hcz216_1 := ce BK559 1; have hcz216_2 := ce BK559 2; have hcz216_3 := ce BK559 3; have hfz216_0 := fz BK559 0; have hfz216_1 := fz BK559 1; have hfz216_2 := fz BK559 2; have hfz216_3 := fz BK559 3; obtain ⟨Ao217, co217, eo217⟩ := Kd.V_slice HO557.out; subst eo217) | ((with_reducible refine gate_store (t := 27) (p := 11) rfl ?_); refine store_event (t := 27) (p := 11) (v := ?vo_w218) (w1 := ((((w213.setCell ⟨gb559, 0, none⟩ (.int .u64 t552)).setCell ⟨gb559, 1, none⟩ (.int .u64 t553)).setCell ⟨gb559, 2, none⟩ (.int .i64 t554)).setCell ⟨gb559, 3, none⟩ (.slice Ao217 t555.length co217))) ?hg ?ho ?hn ?hr ?_; (case ho => rfl); (case hg => rfl); (case hn => rfl); (case hr => first | (go_simp; done) | (go_simp; rfl)); intro w218 hw; have n0_ : Aside0 (Kd.V k62 62 w218 w.heap.size (fun k_ => k_ ≠ gb534 ∧ k_ ≠ gb551 ∧ k_ ≠ gb559) (.slice Ao209 t547.length co209) t547) := ⟨(by rw [hw]; exact (pv (Kd.V_mono (Kd.V_far (p := ⟨gb559, 3, none⟩) (Kd.V_far (p := ⟨gb559, 2, none⟩) (Kd.V_far (p := ⟨gb559, 1, none⟩) (Kd.V_far (p := ⟨gb559, 0, none⟩) (Kd.V_mono HO549.out (fun k_ hk => (⟨hk, hk.2⟩ : _ ∧ k_ ≠ gb559))) (fun _ hk => hk.2) (.int .u64 t552)) (fun _ hk => hk.2) (.int .u64 t553)) (fun _ hk => hk.2) (.int .i64 t554)) (fun _ hk => hk.2) (.slice Ao217 t555.length co217)) (fun _ hk => ⟨hk.1.1.1, ⟨hk.1.1.2, hk.1.2⟩⟩))))⟩; have n1_ : Aside0 (Kd.V k62 62 w218 w.heap.size (fun k_ => k_ ≠ gb534 ∧ k_ ≠ gb551 ∧ k_ ≠ gb559) (.slice Ao217 t555.length co217) t555) := ⟨(by rw [hw]; exact (pv (Kd.V_mono (Kd.V_far (p := ⟨gb559, 3, none⟩) (Kd.V_far (p := ⟨gb559, 2, none⟩) (Kd.V_far (p := ⟨gb559, 1, none⟩) (Kd.V_far (p := ⟨gb559, 0, none⟩) (Kd.V_mono HO557.out (fun k_ hk => (⟨hk, hk.2⟩ : _ ∧ k_ ≠ gb559))) (fun _ hk => hk.2) (.int .u64 t552)) (fun _ hk => hk.2) (.int .u64 t553)) (fun _ hk => hk.2) (.int .i64 t554)) (fun _ hk => hk.2) (.slice Ao217 t555.length co217)) (fun _ hk => ⟨hk.1.1.1, ⟨hk.1.1.2, hk.1.2⟩⟩))))⟩; have n2_ : Aside0 (w218.heap[gb534]? = some (.cells #[.int .u64 a0_0, .int .u64 a0_1, .int .i64 a0_2, .slice A0_3 l0_3.length c0_3] 27 (0, 0))) := ⟨(by rw [hw]; exact (by refine pk ?_; refine blk_far ?_ NB534_559.out _; refine pk ?_; refine blk_far ?_ NB534_559.out _; refine pk ?_; refine blk_far ?_ NB534_559.out _; refine pk ?_; refine blk_far ?_ NB534_559.out _; refine pk ?_; exact BK534.out))⟩; have n3_ : Aside0 (w218.heap[gb551]? = some (.cells #[.int .u64 t544, .int .u64 t545, .int .i64 t546, .slice Ao209 t547.length co209] 27 (0, 0))) := ⟨(by rw [hw]; exact (by refine pk ?_; refine blk_far ?_ NB551_559.out _; refine pk ?_; refine blk_far ?_ NB551_559.out _; refine pk ?_; refine blk_far ?_ NB551_559.out _; refine pk ?_; refine blk_far ?_ NB551_559.out _; refine pk ?_; exact BK551.out))⟩; have n4_ : Aside0 (w218.heap[gb559]? = some (.cells #[.int .u64 t552, .int .u64 t553, .int .i64 t554, .slice Ao217 t555.length co217] 27 (0, 0))) := ⟨(by rw [hw]; exact (by refine pk ?_; refine blk_put (cs := #[.int .u64 t552, .int .u64 t553, .int .i64 t554, .slice none 0 0]) ?_ 3 _ rfl; refine pk ?_; refine blk_put (cs := #[.int .u64 t552, .int .u64 t553, .int .i64 0, .slice none 0 0]) ?_ 2 _ rfl; refine pk ?_; refine blk_put (cs := #[.int .u64 t552, .int .u64 0, .int .i64 0, .slice none 0 0]) ?_ 1 _ rfl; refine pk ?_; refine blk_put (cs := #[.int .u64 0, .int .u64 0, .int .i64 0, .slice none 0 0]) ?_ 0 _ rfl; refine pk ?_; exact BK559.out))⟩; have n5_ : Aside0 (Below w.heap.size w w218) := ⟨(by rw [hw]; exact (pb HB))⟩; clear hw; clear HO549; clear HO557; clear BK534; clear BK551; clear BK559; clear HB; have HO549 := n0_; have HO557 := n1_; have BK534 := n2_; have BK551 := n3_; have BK559 := n4_; have HB := n5_; clear n0_ n1_ n2_ n3_ n4_ n5_; have hcz219_0 := ce BK534 0; have hcz219_1 := ce BK534 1; have hcz219_2 := ce BK534 2; have hcz219_3 := ce BK534 3; have hfz219_0 := fz BK534 0; have hfz219_1 := fz BK534 1; have hfz219_2 := fz BK534 2; have hfz219_3 := fz BK534 3) | ((with_reducible refine gate_callee (f := 17) rfl ?_); refine gl (some 66) Try.func17 #[.agg #[.int .u64 a0_0, .int .u64 a0_1, .int .i64 a0_2, .slice A0_3 l0_3.length c0_3], .string a1, .int .u64 (IntKind.u64.wrap (a2 + a3))] ?_; (with_reducible refine (bottom_Add.calls kj4 a0_0 a0_1 a0_2 (fun k_ => k_ < w.heap.size) _ _ l0_3 a1 (IntKind.u64.wrap (a2 + a3)) t560 t561 t562 t563 t566 _ ?side1 A61.out).mono ?_); (case side1 => exact Kd.V_mk HC0_3.out (Kd.F_below (Kd.C_F k62_heap HR0_3.out) (pb HB))); rintro e w220 ⟨v564, rfl, ho0, hb⟩; refine ⟨_, rfl, ?_⟩; have n0_ := Aside0.mk (Kd.V_below (pv HO549.out) hb); have n1_ := Aside0.mk (Kd.V_below (pv HO557.out) hb); have n2_ := Aside0.mk (Kd.V_lower (Kd.V_mono (ok' := fun k_ => k_ ≠ gb534 ∧ k_ ≠ gb551 ∧ k_ ≠ gb559) ho0 (fun k_ hk_ => ⟨Or.elim hk_ (fun hs_ => fun e_ => Nat.not_le.2 hs_ (by rw [e_]; exact GW534.out)) (fun hn_ => (Kd.freshB (g := gb534) (o := .cells #[.int .u64 a0_0, .int .u64 a0_1, .int .i64 a0_2, .slice A0_3 l0_3.length c0_3] 27 (0, 0)) (pk BK534.out) k_ hn_)), Or.elim hk_ (fun hs_ => fun e_ => Nat.not_le.2 hs_ (by rw [e_]; exact GW551.out)) (fun hn_ => (Kd.freshB (g := gb551) (o := .cells #[.int .u64 t544, .int .u64 t545, .int .i64 t546, .slice Ao209 t547.length co209] 27 (0, 0)) (pk BK551.out) k_ hn_)), Or.elim hk_ (fun hs_ => fun e_ => Nat.not_le.2 hs_ (by rw [e_]; exact GW559.out)) (fun hn_ => (Kd.freshB (g := gb559) (o := .cells #[.int .u64 t552, .int .u64 t553, .int .i64 t554, .slice Ao217 t555.length co217] 27 (0, 0)) (pk BK559.out) k_ hn_))⟩)) (below_size (pb HB))); have n3_ := Aside0.mk (blk_below (pk BK534.out) hb); have n4_ := Aside0.mk (blk_below (pk BK551.out) hb); have n5_ := Aside0.mk (blk_below (pk BK559.out) hb); have n6_ := Aside0.mk (below_step (pb HB) hb); clear HO549; clear HO557; clear BK534; clear BK551; clear BK559; clear HB; have HO549 := n0_; have HO557 := n1_; have HO565 := n2_; have BK534 := n3_; have BK551 := n4_; have BK559 := n5_; have HB := n6_; clear n0_ n1_ n2_ n3_ n4_ n5_ n6_; (try clear hb); (try clear hb2); (try clear hk); (try clear hi); (try clear ho0)) | ((with_reducible refine gate_dst (N := 13) rfl ?_); (try (refine gate_guard (by rfl) ?_; dsimp only)); refine box_event ?hg (N := 13) ?hd (cs := #[.int .u64 0, .int .u64 0, .int .i64 0, .slice none 0 0]) (t := 27) ?hr ?_; (case hd => rfl); (case hg => rfl); (case hr => first | (go_simp; done) | (go_simp; rfl)); intro gb567 hg w221 hbox hb; have n0_ := Aside0.mk (Kd.V_below (Kd.V_elderB (pv HO549.out) gb567 (Nat.le_of_eq hg.symm)) hb); have n1_ := Aside0.mk (Kd.V_below (Kd.V_elderB (pv HO557.out) gb567 (Nat.le_of_eq hg.symm)) hb); have n2_ := Aside0.mk (Kd.V_below (Kd.V_elderB (pv HO565.out) gb567 (Nat.le_of_eq hg.symm)) hb); have n3_ := Aside0.mk (blk_below (pk BK534.out) hb); have n4_ := Aside0.mk (blk_below (pk BK551.out) hb); have n5_ := Aside0.mk (blk_below (pk BK559.out) hb); have n6_ := Aside0.mk (below_step (pb HB) hb); have n7_ := Aside0.mk (hbox); have n8_ := Aside0.mk ((pg hg HB : w.heap.size ≤ gb567)); have n9_ := Aside0.mk ((pg hg HB : w.heap.size ≤ gb567)); have n10_ := Aside0.mk ((pl hg (pk BK534.out) : gb534 ≠ gb567)); have n11_ := Aside0.mk ((pl' hg (pk BK534.out) : gb567 ≠ gb534)); have n12_ := Aside0.mk ((pl hg (pk BK551.out) : gb551 ≠ gb567)); have n13_ := Aside0.mk ((pl' hg (pk BK551.out) : gb567 ≠ gb551)); have n14_ := Aside0.mk ((pl hg (pk BK559.out) : gb559 ≠ gb567)); have n15_ := Aside0.mk ((pl' hg (pk BK559.out) : gb567 ≠ gb559)); clear HO549; clear HO557; clear HO565; clear BK534; clear BK551; clear BK559; clear HB; have HO549 := n0_; have HO557 := n1_; have HO565 := n2_; have BK534 := n3_; have BK551 := n4_; have BK559 := n5_; have HB := n6_; have BK567 := n7_; have GW567 := n8_; have GE567 := n9_; have NB534_567 := n10_; have NB567_534 := n11_; have NB551_567 := n12_; have NB567_551 := n13_; have NB559_567 := n14_; have NB567_559 := n15_; clear n0_ n1_ n2_ n3_ n4_ n5_ n6_ n7_ n8_ n9_ n10_ n11_ n12_ n13_ n14_ n15_; clear hb hbox hg; have hnb222 := NB567_534.out; have hnc222 := NB534_567.out; have hnb223 := NB567_551.out; have hnc223 := NB551_567.out; have hnb224 := NB567_559.out; have hnc224 := NB559_567.out; have hcz225_0 := ce BK567 0; have hcz225_1 := ce BK567 1; have hcz225_2 := ce BK567 2; have hcz225_3 := ce BK567 3; have hfz225_0 := fz BK567 0; have hfz225_1 := fz BK567 1; have hfz225_2 := fz BK567 2; have hfz225_3 := fz BK567 3; obtain ⟨Ao226, co226, eo226⟩ := Kd.V_slice HO565.out; subst eo226) | (go_at_call 11; (with_reducible refine (samphirelaw14_awake.calls kj4  t577 hrT _ A203.out).mono ?_); rintro e w227 ⟨rfl, hb⟩; replace HO549 := Aside0.mk (Kd.V_below (pv ((Kd.V_mono (Kd.V_far (p := ⟨gb567, 3, none⟩) (Kd.V_far (p := ⟨gb567, 2, none⟩) (Kd.V_far (p := ⟨gb567, 1, none⟩) (Kd.V_far (p := ⟨gb567, 0, none⟩) (Kd.V_mono HO549.out (fun k_ hk => (⟨hk, hk.2⟩ : _ ∧ k_ ≠ gb567))) (fun _ hk => hk.2) (.int .u64 t560)) (fun _ hk => hk.2) (.int .u64 t561)) (fun _ hk => hk.2) (.int .i64 t562)) (fun _ hk => hk.2) (.slice Ao226 t563.length co226)) (fun _ h_ => h_.1)))) hb); replace HO557 := Aside0.mk (Kd.V_below (pv ((Kd.V_mono (Kd.V_far (p := ⟨gb567, 3, none⟩) (Kd.V_far (p := ⟨gb567, 2, none⟩) (Kd.V_far (p := ⟨gb567, 1, none⟩) (Kd.V_far (p := ⟨gb567, 0, none⟩) (Kd.V_mono HO557.out (fun k_ hk => (⟨hk, hk.2⟩ : _ ∧ k_ ≠ gb567))) (fun _ hk => hk.2) (.int .u64 t560)) (fun _ hk => hk.2) (.int .u64 t561)) (fun _ hk => hk.2) (.int .i64 t562)) (fun _ hk => hk.2) (.slice Ao226 t563.length co226)) (fun _ h_ => h_.1)))) hb); replace HO565 := Aside0.mk (Kd.V_below (pv ((Kd.V_mono (Kd.V_far (p := ⟨gb567, 3, none⟩) (Kd.V_far (p := ⟨gb567, 2, none⟩) (Kd.V_far (p := ⟨gb567, 1, none⟩) (Kd.V_far (p := ⟨gb567, 0, none⟩) (Kd.V_mono HO565.out (fun k_ hk => (⟨hk, hk.2⟩ : _ ∧ k_ ≠ gb567))) (fun _ hk => hk.2) (.int .u64 t560)) (fun _ hk => hk.2) (.int .u64 t561)) (fun _ hk => hk.2) (.int .i64 t562)) (fun _ hk => hk.2) (.slice Ao226 t563.length co226)) (fun _ h_ => h_.1)))) hb); replace BK534 := Aside0.mk (blk_below (g := gb534) (o := .cells #[.int .u64 a0_0, .int .u64 a0_1, .int .i64 a0_2, .slice A0_3 l0_3.length c0_3] 27 (0, 0)) (by refine pk ?_; refine blk_far ?_ NB534_567.out _; refine pk ?_; refine blk_far ?_ NB534_567.out _; refine pk ?_; refine blk_far ?_ NB534_567.out _; refine pk ?_; refine blk_far ?_ NB534_567.out _; refine pk ?_; exact BK534.out) hb); replace BK551 := Aside0.mk (blk_below (g := gb551) (o := .cells #[.int .u64 t544, .int .u64 t545, .int .i64 t546, .slice Ao209 t547.length co209] 27 (0, 0)) (by refine pk ?_; refine blk_far ?_ NB551_567.out _; refine pk ?_; refine blk_far ?_ NB551_567.out _; refine pk ?_; refine blk_far ?_ NB551_567.out _; refine pk ?_; refine blk_far ?_ NB551_567.out _; refine pk ?_; exact BK551.out) hb); replace BK559 := Aside0.mk (blk_below (g := gb559) (o := .cells #[.int .u64 t552, .int .u64 t553, .int .i64 t554, .slice Ao217 t555.length co217] 27 (0, 0)) (by refine pk ?_; refine blk_far ?_ NB559_567.out _; refine pk ?_; refine blk_far ?_ NB559_567.out _; refine pk ?_; refine blk_far ?_ NB559_567.out _; refine pk ?_; refine blk_far ?_ NB559_567.out _; refine pk ?_; exact BK559.out) hb); replace BK567 := Aside0.mk (blk_below (g := gb567) (o := .cells #[.int .u64 t560, .int .u64 t561, .int .i64 t562, .slice Ao226 t563.length co226] 27 (0, 0)) (by refine pk ?_; refine blk_put (cs := #[.int .u64 t560, .int .u64 t561, .int .i64 t562, .slice none 0 0]) ?_ 3 _ rfl; refine pk ?_; refine blk_put (cs := #[.int .u64 t560, .int .u64 t561, .int .i64 0, .slice none 0 0]) ?_ 2 _ rfl; refine pk ?_; refine blk_put (cs := #[.int .u64 t560, .int .u64 0, .int .i64 0, .slice none 0 0]) ?_ 1 _ rfl; refine pk ?_; refine blk_put (cs := #[.int .u64 0, .int .u64 0, .int .i64 0, .slice none 0 0]) ?_ 0 _ rfl; refine pk ?_; exact BK567.out) hb); replace HB := Aside0.mk (below_step (pb HB) hb); (try clear hb); (try clear hb2); (try clear hk); (try clear hi)))
       go_ret
       exact ⟨by first | rfl | (simp [errW_none, errW_some] <;> rfl) | (simp [*, errW_none, errW_some] <;> rfl), pb HB⟩
      ·rw [if_neg c202] at H
       exact Bool.noConfusion ((Option.some.inj H).trans hrT.out)
end Go.Proofs.Ytmfffbafldbihaa.H
