-- laid by wip/hyb.py (the kit's printer with turns of ours)
import Derived.Test.YtnpipaehcklnbaaHx0
import Derived.Test.YtnpipaehcklnbaaHx2
import Derived.Test.YtnpipaehcklnbaaHx3
namespace Go.Proofs.Ytnpipaehcklnbaa.H
open Go.RowKit Go.Proofs.YtnpipaehcklnbaaW.PrintWords Go.Proofs.YtnpipaehcklnbaaW.PrintLast Go.Proofs.YtnpipaehcklnbaaW.PrintMore
attribute [local go_sem] max2_int min2_int max_two min_two max_three min_three max_four min_four   -- for this text's walks alone
set_option linter.unusedVariables false
set_option linter.unusedSimpArgs false

/-! ### samphirelaw19_ChooseTurned: function 6 -/
mutual
def samphirelaw19_ChooseTurned.j0 : Nat → List (S42) → List ByteArray → Int → Bool → Option (Bool)
  | 0, _, _, _, _ => none
  | k + 1, x0, x1, x2, x24 => if x24 = true then ((samphirelaw19_awake.f k).bind fun t311 => (some t311)) else (samphirelaw19_ChooseTurned.l0 k x0 x1 x2 ([] : List (S42)) (x0.length : Int) 0)
def samphirelaw19_ChooseTurned.l0 : Nat → List (S42) → List ByteArray → Int → List (S42) → Int → Int → Option (Bool)
  | 0, _, _, _, _, _, _ => none
  | k + 1, x0, x1, x2, x7, x27, x28 => if x28 < x27 then (if (x0.length : Int) = 0 then (none) else (if 0 ≤ (Int.tmod (wrap64 ((wrap64 ((x0.length : Int) - x28)) + (wrap64 (x2)))) (x0.length : Int)) then (if (Int.tmod (wrap64 ((wrap64 ((x0.length : Int) - x28)) + (wrap64 (x2)))) (x0.length : Int)) < (x0.length : Int) then ((some (([(⟨(rd_T42 x0 (Int.tmod (wrap64 ((wrap64 ((x0.length : Int) - x28)) + (wrap64 (x2)))) (x0.length : Int))).f0, (rd_T42 x0 (Int.tmod (wrap64 ((wrap64 ((x0.length : Int) - x28)) + (wrap64 (x2)))) (x0.length : Int))).f1, (rd_T42 x0 (Int.tmod (wrap64 ((wrap64 ((x0.length : Int) - x28)) + (wrap64 (x2)))) (x0.length : Int))).f2, (rd_T42 x0 (Int.tmod (wrap64 ((wrap64 ((x0.length : Int) - x28)) + (wrap64 (x2)))) (x0.length : Int))).f3⟩ : S42)] : List (S42)) : List (S42))).bind fun y313 => (if x7.length + y313.length < 2199023255552 then (samphirelaw19_ChooseTurned.l0 k x0 x1 x2 (x7 ++ y313) x27 (wrap64 (x28 + 1))) else (none))) else (none)) else (none))) else ((choose_Keys.f k x0 x1).bind fun t319 => ((some (([] : List (S42)) : List (S42))).bind fun y322 => (if y322.length + x0.length < 2199023255552 then ((some (y322 ++ x0 : List (S42))).bind fun y325 => (if 0 < (x0.length : Int) then ((some (([(⟨(rd_T42 x0 0).f0, (rd_T42 x0 0).f1, (rd_T42 x0 0).f2, (rd_T42 x0 0).f3⟩ : S42)] : List (S42)) : List (S42))).bind fun y329 => (if y325.length + y329.length < 2199023255552 then ((choose_Keys.f k x7 x1).bind fun t335 => ((samphireref16_Strings.f k t319 t335).bind fun t338 => (if t338 = true then (if (x0.length : Int) ≥ 8 then ((choose_Keys.f k x0 t319).bind fun t339 => ((samphireref16_Strings.f k t339 t319).bind fun t342 => (if t342 = true then ((samphirelaw19_awake.f k).bind fun t343 => (some t343)) else (some false)))) else ((choose_Keys.f k (y325 ++ y329) x1).bind fun t344 => ((samphireref16_Strings.f k t319 t344).bind fun t347 => (if t347 = true then ((choose_Keys.f k x0 t319).bind fun t348 => ((samphireref16_Strings.f k t348 t319).bind fun t351 => (if t351 = true then ((samphirelaw19_awake.f k).bind fun t352 => (some t352)) else (some false)))) else (some false))))) else (some false)))) else (none))) else (none))) else (none))))
end
def samphirelaw19_ChooseTurned.f (k : Nat) (l0 : List (S42)) (l1 : List ByteArray) (a2 : Int) : Option (Bool) := (samphirelaw19_Refs.f k l0).bind fun t306 => ((samphireref19_Small.f k t306).bind fun t309 => (if t309 = true then ((samphireref16_Small.f k l1).bind fun t310 => (if t310 = true then (samphirelaw19_ChooseTurned.j0 k l0 l1 a2 ((l0.length : Int) == 0)) else (samphirelaw19_ChooseTurned.j0 k l0 l1 a2 true))) else (samphirelaw19_ChooseTurned.j0 k l0 l1 a2 true)))
theorem samphirelaw19_ChooseTurned.mono_l : ∀ k, (∀ y0 y1 y2 y3, LeO (samphirelaw19_ChooseTurned.j0 k y0 y1 y2 y3) (samphirelaw19_ChooseTurned.j0 (k + 1) y0 y1 y2 y3)) ∧ (∀ y0 y1 y2 y3 y4 y5, LeO (samphirelaw19_ChooseTurned.l0 k y0 y1 y2 y3 y4 y5) (samphirelaw19_ChooseTurned.l0 (k + 1) y0 y1 y2 y3 y4 y5))
  | 0 => ⟨fun _ _ _ _ r h => by simp [samphirelaw19_ChooseTurned.j0] at h, fun _ _ _ _ _ _ r h => by simp [samphirelaw19_ChooseTurned.l0] at h⟩
  | k + 1 => by
    obtain ⟨ih0, ih1⟩ := samphirelaw19_ChooseTurned.mono_l k
    refine ⟨?_, ?_⟩
    · intro y0 y1 y2 y3
      unfold samphirelaw19_ChooseTurned.j0
      repeat' first
      | (with_reducible exact ih0 _ _ _ _)
      | (with_reducible exact ih1 _ _ _ _ _ _)
      | (with_reducible exact choose_Keys.mono _ _ _)
      | (with_reducible exact samphirelaw19_Refs.mono _ _)
      | (with_reducible exact samphirelaw19_awake.mono _)
      | (with_reducible exact samphireref16_Small.mono _ _)
      | (with_reducible exact samphireref16_Strings.mono _ _ _)
      | (with_reducible exact samphireref19_Small.mono _ _)
      | (with_reducible exact LeO.refl _)
      | (with_reducible exact LeO.none _)
      | (with_reducible refine LeO.ite ?_ ?_)
      | (with_reducible refine LeO.bind ?_ (fun _ => ?_))
      | exact ih0 _ _ _ _
      | exact ih1 _ _ _ _ _ _
      | exact choose_Keys.mono _ _ _
      | exact samphirelaw19_Refs.mono _ _
      | exact samphirelaw19_awake.mono _
      | exact samphireref16_Small.mono _ _
      | exact samphireref16_Strings.mono _ _ _
      | exact samphireref19_Small.mono _ _
      | exact LeO.none _
      | refine LeO.ite ?_ ?_
      | refine LeO.bind ?_ (fun _ => ?_)
    · intro y0 y1 y2 y3 y4 y5
      unfold samphirelaw19_ChooseTurned.l0
      repeat' first
      | (with_reducible exact ih0 _ _ _ _)
      | (with_reducible exact ih1 _ _ _ _ _ _)
      | (with_reducible exact choose_Keys.mono _ _ _)
      | (with_reducible exact samphirelaw19_Refs.mono _ _)
      | (with_reducible exact samphirelaw19_awake.mono _)
      | (with_reducible exact samphireref16_Small.mono _ _)
      | (with_reducible exact samphireref16_Strings.mono _ _ _)
      | (with_reducible exact samphireref19_Small.mono _ _)
      | (with_reducible exact LeO.refl _)
      | (with_reducible exact LeO.none _)
      | (with_reducible refine LeO.ite ?_ ?_)
      | (with_reducible refine LeO.bind ?_ (fun _ => ?_))
      | exact ih0 _ _ _ _
      | exact ih1 _ _ _ _ _ _
      | exact choose_Keys.mono _ _ _
      | exact samphirelaw19_Refs.mono _ _
      | exact samphirelaw19_awake.mono _
      | exact samphireref16_Small.mono _ _
      | exact samphireref16_Strings.mono _ _ _
      | exact samphireref19_Small.mono _ _
      | exact LeO.none _
      | refine LeO.ite ?_ ?_
      | refine LeO.bind ?_ (fun _ => ?_)
theorem samphirelaw19_ChooseTurned.mono : ∀ a0 a1 a2 k, LeO (samphirelaw19_ChooseTurned.f k a0 a1 a2) (samphirelaw19_ChooseTurned.f (k + 1) a0 a1 a2) := by
  intro a0 a1 a2 k
  obtain ⟨ih0, ih1⟩ := samphirelaw19_ChooseTurned.mono_l k
  unfold samphirelaw19_ChooseTurned.f
  repeat' first
      | (with_reducible exact ih0 _ _ _ _)
      | (with_reducible exact ih1 _ _ _ _ _ _)
      | (with_reducible exact choose_Keys.mono _ _ _)
      | (with_reducible exact samphirelaw19_Refs.mono _ _)
      | (with_reducible exact samphirelaw19_awake.mono _)
      | (with_reducible exact samphireref16_Small.mono _ _)
      | (with_reducible exact samphireref16_Strings.mono _ _ _)
      | (with_reducible exact samphireref19_Small.mono _ _)
      | (with_reducible exact LeO.refl _)
      | (with_reducible exact LeO.none _)
      | (with_reducible refine LeO.ite ?_ ?_)
      | (with_reducible refine LeO.bind ?_ (fun _ => ?_))
      | exact ih0 _ _ _ _
      | exact ih1 _ _ _ _ _ _
      | exact choose_Keys.mono _ _ _
      | exact samphirelaw19_Refs.mono _ _
      | exact samphirelaw19_awake.mono _
      | exact samphireref16_Small.mono _ _
      | exact samphireref16_Strings.mono _ _ _
      | exact samphireref19_Small.mono _ _
      | exact LeO.none _
      | refine LeO.ite ?_ ?_
      | refine LeO.bind ?_ (fun _ => ?_)
def samphirelaw19_ChooseTurned.T10 : Bool × List (List Nat × List Nat) := (true, [([], []), ([], []), ([0, 1], [0, 1]), ([], []), ([3], [3]), ([4], [4]), ([5], [5]), ([2, 6, 2], [2, 6]), ([7, 7, 0, 1, 2, 3, 4, 5, 6, 7], [7])])
def samphirelaw19_ChooseTurned.B10 : List Nat := [0, 0, 3, 0, 8, 24, 56, 127, 255]
theorem samphirelaw19_ChooseTurned.tab10 : rtab .any (opsOf Try.f6 10) = samphirelaw19_ChooseTurned.T10 := by kernel_rfl
theorem samphirelaw19_ChooseTurned.bits10 : waitsOk samphirelaw19_ChooseTurned.T10.2 samphirelaw19_ChooseTurned.B10 = true := by kernel_rfl
set_option maxHeartbeats 8000000 in
set_option maxRecDepth 100000 in
theorem samphirelaw19_ChooseTurned.calls (k : Nat) (P0_ : Nat → Prop) (A0 : Option Addr) (c0 : Nat) (l0 : List (S42)) (A1 : Option Addr) (c1 : Nat) (l1 : List ByteArray) (a2 : Int) (r : Bool) (hrT : Aside0 (r = true)) (w : World) (hs0 : Kd.V k42 42 w w.heap.size (fun k_ => P0_ k_) (.slice A0 l0.length c0) l0) (hr1 : Kd.C Kd.string w A1 l1.length l1) (hc1 : l1.length ≤ c1) (h : samphirelaw19_ChooseTurned.f k l0 l1 a2 = some r) :
    Calls Try.prog 6 #[.slice A0 l0.length c0, .slice A1 l1.length c1, .int .u8 a2] w fun e w' => e = .returned (.bool r) ∧ Below w.heap.size w w' := by
  have hu42 := Try.underlying42
  have HO0 := Aside0.mk (show Kd.V k42 42 w w.heap.size (fun k_ => (P0_ k_ ∨ w.heap.size ≤ k_)) (.slice A0 l0.length c0) l0 from Kd.V_mono hs0 (fun k_ hk => .inl hk))
  have HR1 := Aside0.mk hr1
  have HC1 := Aside0.mk hc1
  clear hr1 hc1
  have HB := Aside0.mk (Below.refl w.heap.size w)
  have H : ((samphirelaw19_Refs.f k l0).bind fun t306 => ((samphireref19_Small.f k t306).bind fun t309 => (if t309 = true then ((samphireref16_Small.f k l1).bind fun t310 => (if t310 = true then (samphirelaw19_ChooseTurned.j0 k l0 l1 a2 ((l0.length : Int) == 0)) else (samphirelaw19_ChooseTurned.j0 k l0 l1 a2 true))) else (samphirelaw19_ChooseTurned.j0 k l0 l1 a2 true)))) = some r := h
  clear h
  have HC4 := Aside0.mk H
  clear H
  go_enter Try.func6, Try.ntmps6
  go_upto_region 1 with (fail)
  go_cut [24] (fun v24 wc => ∃ (kq : Nat) (x24_3 : Bool), v24 = .bool x24_3 ∧ Aside0 (samphirelaw19_ChooseTurned.j0 kq l0 l1 a2 x24_3 = some r) ∧ Aside0 (kq ≤ k) ∧ Aside0 (Kd.V k42 42 wc w.heap.size (fun k_ => (P0_ k_ ∨ w.heap.size ≤ k_)) (.slice A0 l0.length c0) l0) ∧ Aside0 (Below w.heap.size w wc))
  case first =>
    have H := HC4.out
    clear HC4
    replace H := Option.bind_eq_some_iff.mp H
    obtain ⟨t306, A50, H⟩ := H
    replace H : ((samphireref19_Small.f k t306).bind fun t309 => (if t309 = true then ((samphireref16_Small.f k l1).bind fun t310 => (if t310 = true then (samphirelaw19_ChooseTurned.j0 k l0 l1 a2 ((l0.length : Int) == 0)) else (samphirelaw19_ChooseTurned.j0 k l0 l1 a2 true))) else (samphirelaw19_ChooseTurned.j0 k l0 l1 a2 true))) = some r := H
    have A5 := Aside0.mk A50
    clear A50
    replace H := Option.bind_eq_some_iff.mp H
    obtain ⟨t309, A60, H⟩ := H
    replace H : (if t309 = true then ((samphireref16_Small.f k l1).bind fun t310 => (if t310 = true then (samphirelaw19_ChooseTurned.j0 k l0 l1 a2 ((l0.length : Int) == 0)) else (samphirelaw19_ChooseTurned.j0 k l0 l1 a2 true))) else (samphirelaw19_ChooseTurned.j0 k l0 l1 a2 true)) = some r := H
    have A6 := Aside0.mk A60
    clear A60
    by_cases c7 : t309 = true
    · subst c7
      have H1 : ((samphireref16_Small.f k l1).bind fun t310 => (if t310 = true then (samphirelaw19_ChooseTurned.j0 k l0 l1 a2 ((l0.length : Int) == 0)) else (samphirelaw19_ChooseTurned.j0 k l0 l1 a2 true))) = some r := by rw [if_pos rfl] at H; exact H
      clear H
      have H := H1
      clear H1
      replace H := Option.bind_eq_some_iff.mp H
      obtain ⟨t310, A80, H⟩ := H
      replace H : (if t310 = true then (samphirelaw19_ChooseTurned.j0 k l0 l1 a2 ((l0.length : Int) == 0)) else (samphirelaw19_ChooseTurned.j0 k l0 l1 a2 true)) = some r := H
      have A8 := Aside0.mk A80
      clear A80
      by_cases c9 : t310 = true
      · subst c9
        have H1 : (samphirelaw19_ChooseTurned.j0 k l0 l1 a2 ((l0.length : Int) == 0)) = some r := by rw [if_pos rfl] at H; exact H
        clear H
        have H := H1
        clear H1
        have H' := Aside0.mk H
        clear H
        go_wp2_with (first | ((with_reducible refine gate_callee (f := 8) rfl ?_); refine goesL_ (some 12) rfl rfl Try.func8 (by kernel_rfl) rfl #[.slice A0 l0.length c0] rfl (by (try simp only [List.map_toArray, List.map_cons, List.map_nil]); first | done | rfl | (simp only [List.length_drop, List.length_take]; rfl)) ?_; (with_reducible refine (samphirelaw19_Refs.calls k (fun k_ => (P0_ k_ ∨ w.heap.size ≤ k_)) _ _ l0 t306 _ ?side1 A5.out).mono ?_); (case side1 => exact HO0.out); rintro e w10 ⟨v307, rfl, ho0, hb⟩; refine ⟨_, rfl, ?_⟩; have n0_ := Aside0.mk (Kd.V_elder' (by (with_reducible repeat (first | apply Kd.V_alloc | apply Kd.V_drewN | apply Kd.V_drew)); exact HO0.out) (Kd.N_base ho0) hb); have n1_ := Aside0.mk (Kd.N_lower (Kd.N_mono (ok' := fun k_ => (P0_ k_ ∨ w.heap.size ≤ k_)) ho0 (fun k_ hk_ => Or.elim hk_ (fun hs_ => hs_) (fun hn_ => (.inr (Nat.le_trans (below_size (by repeat (first | (with_reducible first | exact HB.out | apply below_alloc | apply pw_below_drewN | apply below_drew1) | exact HB.out))) hn_))))) (below_size (by repeat (first | (with_reducible first | exact HB.out | apply below_alloc | apply pw_below_drewN | apply below_drew1) | exact HB.out)))); have n2_ := Aside0.mk (below_step (by repeat (first | (with_reducible first | exact HB.out | apply below_alloc | apply pw_below_drewN | apply below_drew1) | exact HB.out)) hb); clear HO0; clear HB; have HO0 := n0_; have HO308 := n1_; have HB := n2_; clear n0_ n1_ n2_; (try clear hb); (try clear hb2); (try clear hk); (try clear hi); (try clear ho0); obtain ⟨Ao11, co11, eo11⟩ := Kd.N_slice HO308.out; subst eo11) | ((with_reducible refine gate_callee (f := 9) rfl ?_); refine goesL_ (some 13) rfl rfl Try.func9 (by kernel_rfl) rfl #[.slice Ao11 t306.length co11] rfl (by (try simp only [List.map_toArray, List.map_cons, List.map_nil]); first | done | rfl | (simp only [List.length_drop, List.length_take]; rfl)) ?_; (with_reducible refine (samphireref19_Small.calls k _ _ t306 true _ ?side1 ?side2 A6.out).mono ?_); (case side1 => repeat (first | exact (Kd.N_reads' HO308.out).2.2 | (with_reducible refine Kd.C_alloc ?_ _) | (with_reducible refine Kd.C_drewN ?_ _) | (with_reducible refine Kd.C_drew ?_))); (case side2 => exact (Kd.N_reads' HO308.out).2.1); rintro e w' ⟨rfl, ⟨nd, rfl⟩⟩; refine ⟨_, rfl, ?_⟩) | (go_at_call 10; (with_reducible refine (samphireref16_Small.calls k _ _ l1 true _ ?side1 ?side2 A8.out).mono ?_); (case side1 => repeat (first | exact (Kd.C_below HR1.out (by repeat (first | (with_reducible first | exact HB.out | apply below_alloc | apply pw_below_drewN | apply below_drew1) | exact HB.out))) | (with_reducible refine Kd.C_alloc ?_ _) | (with_reducible refine Kd.C_drewN ?_ _) | (with_reducible refine Kd.C_drew ?_))); (case side2 => exact HC1.out); rintro e w' ⟨rfl, ⟨nd, rfl⟩⟩))
        go_meet
        case rel => exact ⟨_, (((l0.length : Int) == 0)), (by first | rfl | (simp; done) | (simp [*]; done)), H', ⟨by first | omega | exact Nat.le_refl _⟩, ⟨by (with_reducible repeat (first | apply Kd.V_alloc | apply Kd.V_drewN | apply Kd.V_drew)); exact Kd.V_mono HO0.out (fun _ hk => hk.1)⟩, ⟨by repeat (first | (with_reducible first | exact HB.out | apply below_alloc | apply pw_below_drewN | apply below_drew1) | exact HB.out)⟩⟩
      · replace c9 := Bool.eq_false_iff.mpr c9
        subst c9
        have H1 : (samphirelaw19_ChooseTurned.j0 k l0 l1 a2 true) = some r := by rw [if_neg (show ¬ (false = true) by decide)] at H; exact H
        clear H
        have H := H1
        clear H1
        have H' := Aside0.mk H
        clear H
        go_wp2_with (first | ((with_reducible refine gate_callee (f := 8) rfl ?_); refine goesL_ (some 12) rfl rfl Try.func8 (by kernel_rfl) rfl #[.slice A0 l0.length c0] rfl (by (try simp only [List.map_toArray, List.map_cons, List.map_nil]); first | done | rfl | (simp only [List.length_drop, List.length_take]; rfl)) ?_; (with_reducible refine (samphirelaw19_Refs.calls k (fun k_ => (P0_ k_ ∨ w.heap.size ≤ k_)) _ _ l0 t306 _ ?side1 A5.out).mono ?_); (case side1 => exact HO0.out); rintro e w12 ⟨v307, rfl, ho0, hb⟩; refine ⟨_, rfl, ?_⟩; have n0_ := Aside0.mk (Kd.V_elder' (by (with_reducible repeat (first | apply Kd.V_alloc | apply Kd.V_drewN | apply Kd.V_drew)); exact HO0.out) (Kd.N_base ho0) hb); have n1_ := Aside0.mk (Kd.N_lower (Kd.N_mono (ok' := fun k_ => (P0_ k_ ∨ w.heap.size ≤ k_)) ho0 (fun k_ hk_ => Or.elim hk_ (fun hs_ => hs_) (fun hn_ => (.inr (Nat.le_trans (below_size (by repeat (first | (with_reducible first | exact HB.out | apply below_alloc | apply pw_below_drewN | apply below_drew1) | exact HB.out))) hn_))))) (below_size (by repeat (first | (with_reducible first | exact HB.out | apply below_alloc | apply pw_below_drewN | apply below_drew1) | exact HB.out)))); have n2_ := Aside0.mk (below_step (by repeat (first | (with_reducible first | exact HB.out | apply below_alloc | apply pw_below_drewN | apply below_drew1) | exact HB.out)) hb); clear HO0; clear HB; have HO0 := n0_; have HO308 := n1_; have HB := n2_; clear n0_ n1_ n2_; (try clear hb); (try clear hb2); (try clear hk); (try clear hi); (try clear ho0); obtain ⟨Ao13, co13, eo13⟩ := Kd.N_slice HO308.out; subst eo13) | ((with_reducible refine gate_callee (f := 9) rfl ?_); refine goesL_ (some 13) rfl rfl Try.func9 (by kernel_rfl) rfl #[.slice Ao13 t306.length co13] rfl (by (try simp only [List.map_toArray, List.map_cons, List.map_nil]); first | done | rfl | (simp only [List.length_drop, List.length_take]; rfl)) ?_; (with_reducible refine (samphireref19_Small.calls k _ _ t306 true _ ?side1 ?side2 A6.out).mono ?_); (case side1 => repeat (first | exact (Kd.N_reads' HO308.out).2.2 | (with_reducible refine Kd.C_alloc ?_ _) | (with_reducible refine Kd.C_drewN ?_ _) | (with_reducible refine Kd.C_drew ?_))); (case side2 => exact (Kd.N_reads' HO308.out).2.1); rintro e w' ⟨rfl, ⟨nd, rfl⟩⟩; refine ⟨_, rfl, ?_⟩) | (go_at_call 10; (with_reducible refine (samphireref16_Small.calls k _ _ l1 false _ ?side1 ?side2 A8.out).mono ?_); (case side1 => repeat (first | exact (Kd.C_below HR1.out (by repeat (first | (with_reducible first | exact HB.out | apply below_alloc | apply pw_below_drewN | apply below_drew1) | exact HB.out))) | (with_reducible refine Kd.C_alloc ?_ _) | (with_reducible refine Kd.C_drewN ?_ _) | (with_reducible refine Kd.C_drew ?_))); (case side2 => exact HC1.out); rintro e w' ⟨rfl, ⟨nd, rfl⟩⟩))
        go_meet
        case rel => exact ⟨_, (true), (by first | rfl | (simp; done) | (simp [*]; done)), H', ⟨by first | omega | exact Nat.le_refl _⟩, ⟨by (with_reducible repeat (first | apply Kd.V_alloc | apply Kd.V_drewN | apply Kd.V_drew)); exact Kd.V_mono HO0.out (fun _ hk => hk.1)⟩, ⟨by repeat (first | (with_reducible first | exact HB.out | apply below_alloc | apply pw_below_drewN | apply below_drew1) | exact HB.out)⟩⟩
    · replace c7 := Bool.eq_false_iff.mpr c7
      subst c7
      have H1 : (samphirelaw19_ChooseTurned.j0 k l0 l1 a2 true) = some r := by rw [if_neg (show ¬ (false = true) by decide)] at H; exact H
      clear H
      have H := H1
      clear H1
      have H' := Aside0.mk H
      clear H
      go_wp2_with (first | ((with_reducible refine gate_callee (f := 8) rfl ?_); refine goesL_ (some 12) rfl rfl Try.func8 (by kernel_rfl) rfl #[.slice A0 l0.length c0] rfl (by (try simp only [List.map_toArray, List.map_cons, List.map_nil]); first | done | rfl | (simp only [List.length_drop, List.length_take]; rfl)) ?_; (with_reducible refine (samphirelaw19_Refs.calls k (fun k_ => (P0_ k_ ∨ w.heap.size ≤ k_)) _ _ l0 t306 _ ?side1 A5.out).mono ?_); (case side1 => exact HO0.out); rintro e w14 ⟨v307, rfl, ho0, hb⟩; refine ⟨_, rfl, ?_⟩; have n0_ := Aside0.mk (Kd.V_elder' (by (with_reducible repeat (first | apply Kd.V_alloc | apply Kd.V_drewN | apply Kd.V_drew)); exact HO0.out) (Kd.N_base ho0) hb); have n1_ := Aside0.mk (Kd.N_lower (Kd.N_mono (ok' := fun k_ => (P0_ k_ ∨ w.heap.size ≤ k_)) ho0 (fun k_ hk_ => Or.elim hk_ (fun hs_ => hs_) (fun hn_ => (.inr (Nat.le_trans (below_size (by repeat (first | (with_reducible first | exact HB.out | apply below_alloc | apply pw_below_drewN | apply below_drew1) | exact HB.out))) hn_))))) (below_size (by repeat (first | (with_reducible first | exact HB.out | apply below_alloc | apply pw_below_drewN | apply below_drew1) | exact HB.out)))); have n2_ := Aside0.mk (below_step (by repeat (first | (with_reducible first | exact HB.out | apply below_alloc | apply pw_below_drewN | apply below_drew1) | exact HB.out)) hb); clear HO0; clear HB; have HO0 := n0_; have HO308 := n1_; have HB := n2_; clear n0_ n1_ n2_; (try clear hb); (try clear hb2); (try clear hk); (try clear hi); (try clear ho0); obtain ⟨Ao15, co15, eo15⟩ := Kd.N_slice HO308.out; subst eo15) | ((with_reducible refine gate_callee (f := 9) rfl ?_); refine goesL_ (some 13) rfl rfl Try.func9 (by kernel_rfl) rfl #[.slice Ao15 t306.length co15] rfl (by (try simp only [List.map_toArray, List.map_cons, List.map_nil]); first | done | rfl | (simp only [List.length_drop, List.length_take]; rfl)) ?_; (with_reducible refine (samphireref19_Small.calls k _ _ t306 false _ ?side1 ?side2 A6.out).mono ?_); (case side1 => repeat (first | exact (Kd.N_reads' HO308.out).2.2 | (with_reducible refine Kd.C_alloc ?_ _) | (with_reducible refine Kd.C_drewN ?_ _) | (with_reducible refine Kd.C_drew ?_))); (case side2 => exact (Kd.N_reads' HO308.out).2.1); rintro e w' ⟨rfl, ⟨nd, rfl⟩⟩; refine ⟨_, rfl, ?_⟩))
      go_meet
      case rel => exact ⟨_, (true), (by first | rfl | (simp; done) | (simp [*]; done)), H', ⟨by first | omega | exact Nat.le_refl _⟩, ⟨by (with_reducible repeat (first | apply Kd.V_alloc | apply Kd.V_drewN | apply Kd.V_drew)); exact Kd.V_mono HO0.out (fun _ hk => hk.1)⟩, ⟨by repeat (first | (with_reducible first | exact HB.out | apply below_alloc | apply pw_below_drewN | apply below_drew1) | exact HB.out)⟩⟩
  case rest =>
    clear HC4
    try clear c1
    try clear p2
    try clear c6
    try clear c7
    try clear c8
    try clear c9
    obtain ⟨kq, x24_3, rfl, HA, HJ3, HO_0, HB⟩ := hcut
    cases kq with
    | zero => exact absurd HA.out (by simp [samphirelaw19_ChooseTurned.j0])
    | succ kj3 =>
      have H := HA.out
      clear HA
      simp only [samphirelaw19_ChooseTurned.j0] at H
      by_cases c16 : x24_3 = true
      · subst c16
        have H1 : ((samphirelaw19_awake.f kj3).bind fun t311 => (some t311)) = some r := by rw [if_pos rfl] at H; exact H
        clear H
        have H := H1
        clear H1
        replace H := Option.bind_eq_some_iff.mp H
        obtain ⟨t311, A170, H⟩ := H
        replace H : (some t311) = some r := H
        have A17 := Aside0.mk A170
        clear A170
        obtain rfl := Option.some.inj H
        go_wp2_with (first | ((with_reducible refine gate_callee (f := 11) rfl ?_); refine goesL_ (some 25) rfl rfl Try.func11 (by kernel_rfl) rfl #[] rfl (by (try simp only [List.map_toArray, List.map_cons, List.map_nil]); first | done | rfl | (simp only [List.length_drop, List.length_take]; rfl)) ?_; (with_reducible refine (samphirelaw19_awake.calls kj3  t311 hrT _ A17.out).mono ?_); rintro e w18 ⟨rfl, hb⟩; refine ⟨_, rfl, ?_⟩; have n0_ := Aside0.mk (Kd.V_below (by (with_reducible repeat (first | apply Kd.V_alloc | apply Kd.V_drewN | apply Kd.V_drew)); exact HO_0.out) hb); have n1_ := Aside0.mk (below_step (by repeat (first | (with_reducible first | exact HB.out | apply below_alloc | apply pw_below_drewN | apply below_drew1) | exact HB.out)) hb); clear HO_0; clear HB; have HO_0 := n0_; have HB := n1_; clear n0_ n1_; (try clear hb); (try clear hb2); (try clear hk); (try clear hi)))
        go_ret
        exact ⟨by first | rfl | (simp [errW_none, errW_some] <;> rfl) | (simp [*, errW_none, errW_some] <;> rfl), by repeat (first | (with_reducible first | exact HB.out | apply below_alloc | apply pw_below_drewN | apply below_drew1) | exact HB.out)⟩
      · replace c16 := Bool.eq_false_iff.mpr c16
        subst c16
        have H1 : (samphirelaw19_ChooseTurned.l0 kj3 l0 l1 a2 ([] : List (S42)) (l0.length : Int) 0) = some r := by rw [if_neg (show ¬ (false = true) by decide)] at H; exact H
        clear H
        have H := H1
        clear H1
        have H' := Aside0.mk H
        clear H
        go_wp2
        go_loopg [7, 28] kj3 (fun kq v7 v28 w' => ∃ (x7_2 : List (S42)) (x28_2 : Int), v28 = .int .i64 x28_2 ∧ Aside0 (samphirelaw19_ChooseTurned.l0 kq l0 l1 a2 x7_2 (l0.length : Int) x28_2 = some r) ∧ Aside0 (kq ≤ kj3) ∧ Aside0 (Kd.V k42 42 w' w.heap.size (fun k_ => (P0_ k_ ∨ w.heap.size ≤ k_) ∧ some k_ ≠ (v7 : Value).ownBlock) (.slice A0 l0.length c0) l0) ∧ Aside0 (Kd.N k42 42 w' w.heap.size (fun k_ => (P0_ k_ ∨ w.heap.size ≤ k_)) v7 x7_2) ∧ Aside0 (Below w.heap.size w w'))
        case atStart => exact ⟨(([] : List (S42))), (0), (by first | rfl | (simp; done) | (simp [*]; done)), H', ⟨Nat.le_refl _⟩, ⟨by (with_reducible repeat (first | apply Kd.V_alloc | apply Kd.V_drewN | apply Kd.V_drew)); exact Kd.V_mono HO_0.out (fun _ hk => ⟨hk, (by simp [Value.ownBlock])⟩)⟩, ⟨by first | exact Kd.S_nil _ _ _ _ _ | exact Kd.N_nil _ _ _ _ _ | exact Kd.V_nil _ _ _ _ _ | exact Kd.Q_nil _ _ _ _ _ | exact Kd.R_nil _ _ _ _ _⟩, ⟨by repeat (first | (with_reducible first | exact HB.out | apply below_alloc | apply pw_below_drewN | apply below_drew1) | exact HB.out)⟩⟩
        case round =>
          clear H'
          try clear c1
          try clear p2
          try clear c6
          try clear c7
          try clear c8
          try clear c9
          try clear c11
          try clear c16
          try clear p2
          obtain ⟨x7_2, x28_2, rfl, HA, HK2, HO_0, HO_7, HB⟩ := hrel
          cases gk with
          | zero => exact absurd HA.out (by simp [samphirelaw19_ChooseTurned.l0])
          | succ k2 =>
            have H := HA.out
            clear HA
            simp only [samphirelaw19_ChooseTurned.l0] at H
            by_cases c19 : x28_2 < (l0.length : Int)
            · rw [if_pos c19] at H
              have c19b0 : decide (x28_2 < (l0.length : Int)) = true := decide_eq_true c19
              clear c19
              by_cases c20 : (l0.length : Int) = 0
              · rw [if_pos c20] at H
                exact absurd H (by simp)
              · rw [if_neg c20] at H
                have c20b0 : ((l0.length : Int) == 0) = false := beq_eq_false_iff_ne.mpr c20
                have c20b1 : ((l0.length : Int) != 0) = true := bne_iff_ne.mpr c20
                have c20b2 : ¬ (l0 = []) := fun h_ => c20 (by rw [h_]; rfl)
                obtain ⟨ji21, hji21⟩ : ∃ j_ : Int, (Int.tmod (wrap64 ((wrap64 ((l0.length : Int) - x28_2)) + (wrap64 (a2)))) (l0.length : Int)) = j_ := ⟨_, rfl⟩
                replace H : (if 0 ≤ (ji21) then (if (ji21) < (l0.length : Int) then ((some (([(⟨(rd_T42 l0 (ji21)).f0, (rd_T42 l0 (ji21)).f1, (rd_T42 l0 (ji21)).f2, (rd_T42 l0 (ji21)).f3⟩ : S42)] : List (S42)) : List (S42))).bind fun y313 => (if x7_2.length + y313.length < 2199023255552 then (samphirelaw19_ChooseTurned.l0 k2 l0 l1 a2 (x7_2 ++ y313) (l0.length : Int) (wrap64 (x28_2 + 1))) else (none))) else (none)) else (none)) = some r := by first | (rw [hji21] at H; exact H) | (simp only [hji21] at H ⊢; exact H)
                by_cases c22 : 0 ≤ (ji21)
                · rw [if_pos c22] at H
                  have c22b0 : decide (0 ≤ (ji21)) = true := decide_eq_true c22
                  clear c22
                  by_cases c23 : (ji21) < (l0.length : Int)
                  · rw [if_pos c23] at H
                    have c23b0 : decide ((ji21) < (l0.length : Int)) = true := decide_eq_true c23
                    clear c23
                    obtain ⟨y313, hy313⟩ : ∃ y_ : List (S42), y_ = (([(⟨(rd_T42 l0 (ji21)).f0, (rd_T42 l0 (ji21)).f1, (rd_T42 l0 (ji21)).f2, (rd_T42 l0 (ji21)).f3⟩ : S42)] : List (S42))) := ⟨_, rfl⟩
                    replace H : (if x7_2.length + y313.length < 2199023255552 then (samphirelaw19_ChooseTurned.l0 k2 l0 l1 a2 (x7_2 ++ y313) (l0.length : Int) (wrap64 (x28_2 + 1))) else (none)) = some r := by first | (rw [hy313]; with_reducible exact H) | (have H2_ := (Option.bind_some _ _).symm.trans H; rw [hy313]; with_reducible exact H2_) | (have H2_ := (Option.bind_some _ _).symm.trans H; with_reducible exact H2_) | with_reducible exact H | (rw [hy313]; exact H) | exact H
                    have Ny313 := Aside0.mk hy313
                    clear hy313
                    by_cases c24 : x7_2.length + y313.length < 2199023255552
                    · rw [if_pos c24] at H
                      have LMc24 := Aside0.mk c24
                      clear c24
                      obtain ⟨y316, hy316⟩ : ∃ y_ : List (S42), y_ = (x7_2 ++ y313) := ⟨_, rfl⟩
                      replace H : (samphirelaw19_ChooseTurned.l0 k2 l0 l1 a2 y316 (l0.length : Int) (wrap64 (x28_2 + 1))) = some r := by first | (rw [hy316]; with_reducible exact H) | (have H2_ := (Option.bind_some _ _).symm.trans H; rw [hy316]; with_reducible exact H2_) | (have H2_ := (Option.bind_some _ _).symm.trans H; with_reducible exact H2_) | with_reducible exact H | (rw [hy316]; exact H) | exact H
                      have Ny316 := Aside0.mk hy316
                      clear hy316
                      have H' := Aside0.mk H
                      clear H
                      have p312 : 0 ≤ ((ji21) : Int) := of_decide_eq_true (by first | (with_reducible assumption) | assumption)
                      have q312 : (ji21) < (l0.length : Int) := of_decide_eq_true (by first | (with_reducible assumption) | assumption)
                      obtain ⟨ad312, A312_3, c312_3, e312, hx312_0, hx312_1, hx312_2, hx312_3, hl312_3, hi312_3⟩ := at_T42 (Kd.V_reads' HO_0.out).2.2 (ji21) p312 q312
                      cases e312
                      obtain ⟨ce312, hce312, hMe312, hcc312⟩ := Kd.V_get HO_0.out z42 (ji21) p312 (by first | exact q312 | exact of_decide_eq_true (by first | (with_reducible assumption) | assumption) | (have e_ := (Kd.V_reads' HO_0.out).1; omega))
                      obtain ⟨ua312_3, uc312_3, rfl, ul312_3, ge312_3⟩ := k42_openF hMe312
                      have hv312_3 := hcc312 3 _ rfl
                      rw [add_field _ _ 3 (by omega)] at hv312_3
                      replace hv312_3 := Option.some.inj (hv312_3.symm.trans hx312_3)
                      injection hv312_3 with hva_ hvn_ hvc_
                      rw [hva_] at ge312_3
                      rw [hvc_] at ul312_3
                      have HL312_3 := Aside0.mk (show Kd.V Kd.string 9 _ w.heap.size _ _ ((rd_T42 l0 (ji21)).f3) from Kd.V_mk ul312_3 ge312_3)
                      clear hva_ hvn_ hvc_ ge312_3 ul312_3
                      clear hcc312 hce312
                      have HR312_3 := Aside0.mk hi312_3
                      have HC312_3 := Aside0.mk hl312_3
                      clear hi312_3 hl312_3
                      replace p312 := eq_true p312
                      replace q312 := eq_true q312
                      go_wp2_with (first | ((with_reducible refine gate_dst (N := 45) rfl ?_); (try (refine gate_guard (by rfl) ?_; dsimp only)); refine Kd.N_lit k42 _ 42 ?hg (N' := 45) ?hd (xs := ([(⟨(rd_T42 l0 (ji21)).f0, (rd_T42 l0 (ji21)).f1, (rd_T42 l0 (ji21)).f2, (rd_T42 l0 (ji21)).f3⟩ : S42)] : List (S42))) (inner := [.int .i64 ((rd_T42 l0 (ji21)).f0), .string ((rd_T42 l0 (ji21)).f1), .string ((rd_T42 l0 (ji21)).f2), .slice A312_3 ((rd_T42 l0 (ji21)).f3).length c312_3]) (ok := (fun k_ => (P0_ k_ ∨ w.heap.size ≤ k_) ∧ some k_ ≠ (u7 : Value).ownBlock)) (okp := (fun k_ => (P0_ k_ ∨ w.heap.size ≤ k_) ∧ some k_ ≠ (u7 : Value).ownBlock)) ?hr ?hp (fun _ hk => hk) ((show ∀ k_, wr.heap.size ≤ k_ → (fun k_ => (P0_ k_ ∨ w.heap.size ≤ k_) ∧ some k_ ≠ (u7 : Value).ownBlock) k_ from fun k_ hk => ⟨(.inr (Nat.le_trans (below_size (by repeat (first | (with_reducible first | exact HB.out | apply below_alloc | apply pw_below_drewN | apply below_drew1) | exact HB.out))) hk)), Kd.fresh' (Kd.N_lt (by (with_reducible repeat (first | apply Kd.N_alloc | apply Kd.N_drewN | apply Kd.N_drew)); exact HO_7.out)) k_ hk⟩) _ (Nat.le_refl _)) (Below.refl _ _) (Nat.le_refl _) (by simp) ?_; (case hd => rfl); (case hg => rfl); (case hr => first | (go_simp; done) | (go_simp; rfl)); (case hp => exact (Reps.c4 (show Kd.FK k42 _ _ (⟨(rd_T42 l0 (ji21)).f0, (rd_T42 l0 (ji21)).f1, (rd_T42 l0 (ji21)).f2, (rd_T42 l0 (ji21)).f3⟩ : S42) [.int .i64 ((rd_T42 l0 (ji21)).f0), .string ((rd_T42 l0 (ji21)).f1), .string ((rd_T42 l0 (ji21)).f2), .slice A312_3 ((rd_T42 l0 (ji21)).f3).length c312_3] from (k42_mkF _ _ (⟨(rd_T42 l0 (ji21)).f0, (rd_T42 l0 (ji21)).f1, (rd_T42 l0 (ji21)).f2, (rd_T42 l0 (ji21)).f3⟩ : S42) (Kd.V_reads' (Kd.V_mono (ok' := (fun k_ => (P0_ k_ ∨ w.heap.size ≤ k_) ∧ some k_ ≠ (u7 : Value).ownBlock)) (HL312_3.out) (fun k_ hk => ⟨hk.1, hk.2⟩))).2.1 (Kd.V_F (Kd.V_mono (ok' := (fun k_ => (P0_ k_ ∨ w.heap.size ≤ k_) ∧ some k_ ≠ (u7 : Value).ownBlock)) (HL312_3.out) (fun k_ hk => ⟨hk.1, hk.2⟩))))) (Reps.none _ _))); intro v314 w25 ho26 hb hg_ hnew_; clear hg_ hnew_; (first | rw [← Ny313.out] at ho26 | (simp only [Int.reduceToNat] at ho26; rw [← Ny313.out] at ho26)); have n0_ := Aside0.mk (Kd.V_elder' (by (with_reducible repeat (first | apply Kd.V_alloc | apply Kd.V_drewN | apply Kd.V_drew)); exact HO_0.out) (Kd.N_base ho26) hb); have n1_ := Aside0.mk (Kd.N_elder' (by (with_reducible repeat (first | apply Kd.N_alloc | apply Kd.N_drewN | apply Kd.N_drew)); exact HO_7.out) (Kd.N_base ho26) hb); have n2_ := Aside0.mk (Kd.V_elder' (by (with_reducible repeat (first | apply Kd.V_alloc | apply Kd.V_drewN | apply Kd.V_drew)); exact HL312_3.out) (Kd.N_base ho26) hb); have n3_ := Aside0.mk (Kd.N_lower ho26 (below_size (by repeat (first | (with_reducible first | exact HB.out | apply below_alloc | apply pw_below_drewN | apply below_drew1) | exact HB.out)))); have n4_ := Aside0.mk (Kd.C_below (by repeat (first | (with_reducible exact HR312_3.out) | (with_reducible refine Kd.C_alloc ?_ _) | (with_reducible refine Kd.C_drewN ?_ _) | (with_reducible refine Kd.C_drew ?_) | exact HR312_3.out)) hb); have n5_ := Aside0.mk (below_step (by repeat (first | (with_reducible first | exact HB.out | apply below_alloc | apply pw_below_drewN | apply below_drew1) | exact HB.out)) hb); clear HO_0; clear HO_7; clear HL312_3; clear HR312_3; clear HB; have HO_0 := n0_; have HO_7 := n1_; have HL312_3 := n2_; have HO315 := n3_; have HR312_3 := n4_; have HB := n5_; clear n0_ n1_ n2_ n3_ n4_ n5_; clear hb ho26; obtain ⟨Ao28, co28, eo28⟩ := Kd.N_slice HO315.out; subst eo28) | ((with_reducible refine gate_builtin (b := .append) (xs := #[.tmp 31, .tmp 45]) rfl ?_); (try (refine gate_guard (by rfl) ?_; dsimp only)); at_builtin; refine Kd.N_append_rows k42 (w0 := w) w.heap.size rfl (.tmp 31) (.tmp 45) 22 42 (.agg #[(.int .i64 0), (.string ⟨#[]⟩), (.string ⟨#[]⟩), (.slice none 0 0)]) 64 rfl Try.underlying22 info42 rfl (by decide) (by omega) u7 x7_2 y313 _ _ _ (fun k_ => (P0_ k_ ∨ w.heap.size ≤ k_)) (fun k_ => ((fun k_ => (P0_ k_ ∨ w.heap.size ≤ k_))) k_ ∧ some k_ ≠ (u7 : Value).ownBlock) rfl rfl ?aO ?aR (fun _ hk => hk) ?aF ?aB ?aS ?aL ?_; (case aR => exact (by skip; exact Kd.N_F (Kd.N_mono (ok' := (fun k_ => ((fun k_ => (P0_ k_ ∨ w.heap.size ≤ k_))) k_ ∧ some k_ ≠ (u7 : Value).ownBlock)) (HO315.out) (fun k_ hk => ⟨hk.1, hk.2⟩)))); (case aB => exact (by repeat (first | (with_reducible first | exact HB.out | apply below_alloc | apply pw_below_drewN | apply below_drew1) | exact HB.out))); (case aF => exact (fun k_ hk => (.inr (Nat.le_trans (below_size (by repeat (first | (with_reducible first | exact HB.out | apply below_alloc | apply pw_below_drewN | apply below_drew1) | exact HB.out))) hk)))); (case aO => exact (by (with_reducible repeat (first | apply Kd.N_alloc | apply Kd.N_drewN | apply Kd.N_drew)); exact Kd.N_mono HO_7.out (fun _ hk => hk.1))); (case aS => exact (below_size (by repeat (first | (with_reducible first | exact HB.out | apply below_alloc | apply pw_below_drewN | apply below_drew1) | exact HB.out)))); (case aL => have := LMc24.out; omega); intro v317 w27 ho hb hg hat; rw [← Ny316.out] at ho; have n0_ := Aside0.mk (Kd.V_afterv (ok := (fun k_ => (P0_ k_ ∨ w.heap.size ≤ k_) ∧ some k_ ≠ (.slice Ao28 y313.length co28 : Value).ownBlock)) (by (with_reducible repeat (first | apply Kd.V_alloc | apply Kd.V_drewN | apply Kd.V_drew)); exact Kd.V_mono HO_0.out (fun _ hk => ⟨⟨hk.1.1, hk.2⟩, hk.1.2⟩)) hg hat); have n1_ := Aside0.mk (Kd.V_afterv (ok := (fun k_ => (P0_ k_ ∨ w.heap.size ≤ k_) ∧ some k_ ≠ (.slice Ao28 y313.length co28 : Value).ownBlock)) (by (with_reducible repeat (first | apply Kd.V_alloc | apply Kd.V_drewN | apply Kd.V_drew)); exact Kd.V_mono HL312_3.out (fun _ hk => ⟨⟨hk.1.1, hk.2⟩, hk.1.2⟩)) hg hat); have n2_ := Aside0.mk (Kd.N_afterv (ok := (fun k_ => (P0_ k_ ∨ w.heap.size ≤ k_))) (by (with_reducible repeat (first | apply Kd.N_alloc | apply Kd.N_drewN | apply Kd.N_drew)); exact HO315.out) hg hat); have n3_ := Aside0.mk (hb); have n4_ := Aside0.mk (ho); clear HO_0; clear HL312_3; clear HO315; clear HB; clear HO_7; have HO_0 := n0_; have HL312_3 := n1_; have HO315 := n2_; have HB := n3_; have HO318 := n4_; clear n0_ n1_ n2_ n3_ n4_; clear ho hb hg hat))
                      go_roundg k2
                      case measure => have := HJ3.out; have := HK2.out; omega
                      case rel => exact ⟨(y316), (wrap64 (x28_2 + 1)), (by first | rfl | (simp; done) | (simp [*]; done)), H', ⟨by have := HJ3.out; have := HK2.out; omega⟩, ⟨by (with_reducible repeat (first | apply Kd.V_alloc | apply Kd.V_drewN | apply Kd.V_drew)); exact Kd.V_mono HO_0.out (fun _ hk => ⟨hk.1.1, hk.2⟩)⟩, ⟨by (with_reducible repeat (first | apply Kd.N_alloc | apply Kd.N_drewN | apply Kd.N_drew)); exact HO318.out⟩, ⟨by repeat (first | (with_reducible first | exact HB.out | apply below_alloc | apply pw_below_drewN | apply below_drew1) | exact HB.out)⟩⟩
                    · rw [if_neg c24] at H
                      exact absurd H (by simp)
                  · rw [if_neg c23] at H
                    exact absurd H (by simp)
                · rw [if_neg c22] at H
                  exact absurd H (by simp)
            · rw [if_neg c19] at H
              have c19b0 : decide (x28_2 < (l0.length : Int)) = false := decide_eq_false c19
              clear c19
              replace H := Option.bind_eq_some_iff.mp H
              obtain ⟨t319, A290, H⟩ := H
              replace H : ((some (([] : List (S42)) : List (S42))).bind fun y322 => (if y322.length + l0.length < 2199023255552 then ((some (y322 ++ l0 : List (S42))).bind fun y325 => (if 0 < (l0.length : Int) then ((some (([(⟨(rd_T42 l0 0).f0, (rd_T42 l0 0).f1, (rd_T42 l0 0).f2, (rd_T42 l0 0).f3⟩ : S42)] : List (S42)) : List (S42))).bind fun y329 => (if y325.length + y329.length < 2199023255552 then ((choose_Keys.f k2 x7_2 l1).bind fun t335 => ((samphireref16_Strings.f k2 t319 t335).bind fun t338 => (if t338 = true then (if (l0.length : Int) ≥ 8 then ((choose_Keys.f k2 l0 t319).bind fun t339 => ((samphireref16_Strings.f k2 t339 t319).bind fun t342 => (if t342 = true then ((samphirelaw19_awake.f k2).bind fun t343 => (some t343)) else (some false)))) else ((choose_Keys.f k2 (y325 ++ y329) l1).bind fun t344 => ((samphireref16_Strings.f k2 t319 t344).bind fun t347 => (if t347 = true then ((choose_Keys.f k2 l0 t319).bind fun t348 => ((samphireref16_Strings.f k2 t348 t319).bind fun t351 => (if t351 = true then ((samphirelaw19_awake.f k2).bind fun t352 => (some t352)) else (some false)))) else (some false))))) else (some false)))) else (none))) else (none))) else (none))) = some r := H
              have A29 := Aside0.mk A290
              clear A290
              obtain ⟨y322, hy322⟩ : ∃ y_ : List (S42), y_ = (([] : List (S42))) := ⟨_, rfl⟩
              replace H : (if y322.length + l0.length < 2199023255552 then ((some (y322 ++ l0 : List (S42))).bind fun y325 => (if 0 < (l0.length : Int) then ((some (([(⟨(rd_T42 l0 0).f0, (rd_T42 l0 0).f1, (rd_T42 l0 0).f2, (rd_T42 l0 0).f3⟩ : S42)] : List (S42)) : List (S42))).bind fun y329 => (if y325.length + y329.length < 2199023255552 then ((choose_Keys.f k2 x7_2 l1).bind fun t335 => ((samphireref16_Strings.f k2 t319 t335).bind fun t338 => (if t338 = true then (if (l0.length : Int) ≥ 8 then ((choose_Keys.f k2 l0 t319).bind fun t339 => ((samphireref16_Strings.f k2 t339 t319).bind fun t342 => (if t342 = true then ((samphirelaw19_awake.f k2).bind fun t343 => (some t343)) else (some false)))) else ((choose_Keys.f k2 (y325 ++ y329) l1).bind fun t344 => ((samphireref16_Strings.f k2 t319 t344).bind fun t347 => (if t347 = true then ((choose_Keys.f k2 l0 t319).bind fun t348 => ((samphireref16_Strings.f k2 t348 t319).bind fun t351 => (if t351 = true then ((samphirelaw19_awake.f k2).bind fun t352 => (some t352)) else (some false)))) else (some false))))) else (some false)))) else (none))) else (none))) else (none)) = some r := by first | (rw [hy322]; with_reducible exact H) | (have H2_ := (Option.bind_some _ _).symm.trans H; rw [hy322]; with_reducible exact H2_) | (have H2_ := (Option.bind_some _ _).symm.trans H; with_reducible exact H2_) | with_reducible exact H | (rw [hy322]; exact H) | exact H
              have Ny322 := Aside0.mk hy322
              clear hy322
              by_cases c30 : y322.length + l0.length < 2199023255552
              · rw [if_pos c30] at H
                have LMc30 := Aside0.mk c30
                clear c30
                obtain ⟨y325, hy325⟩ : ∃ y_ : List (S42), y_ = (y322 ++ l0) := ⟨_, rfl⟩
                replace H : (if 0 < (l0.length : Int) then ((some (([(⟨(rd_T42 l0 0).f0, (rd_T42 l0 0).f1, (rd_T42 l0 0).f2, (rd_T42 l0 0).f3⟩ : S42)] : List (S42)) : List (S42))).bind fun y329 => (if y325.length + y329.length < 2199023255552 then ((choose_Keys.f k2 x7_2 l1).bind fun t335 => ((samphireref16_Strings.f k2 t319 t335).bind fun t338 => (if t338 = true then (if (l0.length : Int) ≥ 8 then ((choose_Keys.f k2 l0 t319).bind fun t339 => ((samphireref16_Strings.f k2 t339 t319).bind fun t342 => (if t342 = true then ((samphirelaw19_awake.f k2).bind fun t343 => (some t343)) else (some false)))) else ((choose_Keys.f k2 (y325 ++ y329) l1).bind fun t344 => ((samphireref16_Strings.f k2 t319 t344).bind fun t347 => (if t347 = true then ((choose_Keys.f k2 l0 t319).bind fun t348 => ((samphireref16_Strings.f k2 t348 t319).bind fun t351 => (if t351 = true then ((samphirelaw19_awake.f k2).bind fun t352 => (some t352)) else (some false)))) else (some false))))) else (some false)))) else (none))) else (none)) = some r := by first | (rw [hy325]; with_reducible exact H) | (have H2_ := (Option.bind_some _ _).symm.trans H; rw [hy325]; with_reducible exact H2_) | (have H2_ := (Option.bind_some _ _).symm.trans H; with_reducible exact H2_) | with_reducible exact H | (rw [hy325]; exact H) | exact H
                have Ny325 := Aside0.mk hy325
                clear hy325
                by_cases c31 : 0 < (l0.length : Int)
                · rw [if_pos c31] at H
                  have c31b0 : decide (0 < (l0.length : Int)) = true := decide_eq_true c31
                  have c31b1 : decide (0 < l0.length) = true := decide_eq_true (by omega)
                  clear c31
                  obtain ⟨y329, hy329⟩ : ∃ y_ : List (S42), y_ = (([(⟨(rd_T42 l0 0).f0, (rd_T42 l0 0).f1, (rd_T42 l0 0).f2, (rd_T42 l0 0).f3⟩ : S42)] : List (S42))) := ⟨_, rfl⟩
                  replace H : (if y325.length + y329.length < 2199023255552 then ((choose_Keys.f k2 x7_2 l1).bind fun t335 => ((samphireref16_Strings.f k2 t319 t335).bind fun t338 => (if t338 = true then (if (l0.length : Int) ≥ 8 then ((choose_Keys.f k2 l0 t319).bind fun t339 => ((samphireref16_Strings.f k2 t339 t319).bind fun t342 => (if t342 = true then ((samphirelaw19_awake.f k2).bind fun t343 => (some t343)) else (some false)))) else ((choose_Keys.f k2 (y325 ++ y329) l1).bind fun t344 => ((samphireref16_Strings.f k2 t319 t344).bind fun t347 => (if t347 = true then ((choose_Keys.f k2 l0 t319).bind fun t348 => ((samphireref16_Strings.f k2 t348 t319).bind fun t351 => (if t351 = true then ((samphirelaw19_awake.f k2).bind fun t352 => (some t352)) else (some false)))) else (some false))))) else (some false)))) else (none)) = some r := by first | (rw [hy329]; with_reducible exact H) | (have H2_ := (Option.bind_some _ _).symm.trans H; rw [hy329]; with_reducible exact H2_) | (have H2_ := (Option.bind_some _ _).symm.trans H; with_reducible exact H2_) | with_reducible exact H | (rw [hy329]; exact H) | exact H
                  have Ny329 := Aside0.mk hy329
                  clear hy329
                  by_cases c32 : y325.length + y329.length < 2199023255552
                  · rw [if_pos c32] at H
                    have LMc32 := Aside0.mk c32
                    clear c32
                    obtain ⟨y332, hy332⟩ : ∃ y_ : List (S42), y_ = (y325 ++ y329) := ⟨_, rfl⟩
                    replace H : ((choose_Keys.f k2 x7_2 l1).bind fun t335 => ((samphireref16_Strings.f k2 t319 t335).bind fun t338 => (if t338 = true then (if (l0.length : Int) ≥ 8 then ((choose_Keys.f k2 l0 t319).bind fun t339 => ((samphireref16_Strings.f k2 t339 t319).bind fun t342 => (if t342 = true then ((samphirelaw19_awake.f k2).bind fun t343 => (some t343)) else (some false)))) else ((choose_Keys.f k2 y332 l1).bind fun t344 => ((samphireref16_Strings.f k2 t319 t344).bind fun t347 => (if t347 = true then ((choose_Keys.f k2 l0 t319).bind fun t348 => ((samphireref16_Strings.f k2 t348 t319).bind fun t351 => (if t351 = true then ((samphirelaw19_awake.f k2).bind fun t352 => (some t352)) else (some false)))) else (some false))))) else (some false)))) = some r := by first | (rw [hy332]; with_reducible exact H) | (have H2_ := (Option.bind_some _ _).symm.trans H; rw [hy332]; with_reducible exact H2_) | (have H2_ := (Option.bind_some _ _).symm.trans H; with_reducible exact H2_) | with_reducible exact H | (rw [hy332]; exact H) | exact H
                    have Ny332 := Aside0.mk hy332
                    clear hy332
                    replace H := Option.bind_eq_some_iff.mp H
                    obtain ⟨t335, A330, H⟩ := H
                    replace H : ((samphireref16_Strings.f k2 t319 t335).bind fun t338 => (if t338 = true then (if (l0.length : Int) ≥ 8 then ((choose_Keys.f k2 l0 t319).bind fun t339 => ((samphireref16_Strings.f k2 t339 t319).bind fun t342 => (if t342 = true then ((samphirelaw19_awake.f k2).bind fun t343 => (some t343)) else (some false)))) else ((choose_Keys.f k2 y332 l1).bind fun t344 => ((samphireref16_Strings.f k2 t319 t344).bind fun t347 => (if t347 = true then ((choose_Keys.f k2 l0 t319).bind fun t348 => ((samphireref16_Strings.f k2 t348 t319).bind fun t351 => (if t351 = true then ((samphirelaw19_awake.f k2).bind fun t352 => (some t352)) else (some false)))) else (some false))))) else (some false))) = some r := H
                    have A33 := Aside0.mk A330
                    clear A330
                    replace H := Option.bind_eq_some_iff.mp H
                    obtain ⟨t338, A340, H⟩ := H
                    replace H : (if t338 = true then (if (l0.length : Int) ≥ 8 then ((choose_Keys.f k2 l0 t319).bind fun t339 => ((samphireref16_Strings.f k2 t339 t319).bind fun t342 => (if t342 = true then ((samphirelaw19_awake.f k2).bind fun t343 => (some t343)) else (some false)))) else ((choose_Keys.f k2 y332 l1).bind fun t344 => ((samphireref16_Strings.f k2 t319 t344).bind fun t347 => (if t347 = true then ((choose_Keys.f k2 l0 t319).bind fun t348 => ((samphireref16_Strings.f k2 t348 t319).bind fun t351 => (if t351 = true then ((samphirelaw19_awake.f k2).bind fun t352 => (some t352)) else (some false)))) else (some false))))) else (some false)) = some r := H
                    have A34 := Aside0.mk A340
                    clear A340
                    by_cases c35 : t338 = true
                    · subst c35
                      have H1 : (if (l0.length : Int) ≥ 8 then ((choose_Keys.f k2 l0 t319).bind fun t339 => ((samphireref16_Strings.f k2 t339 t319).bind fun t342 => (if t342 = true then ((samphirelaw19_awake.f k2).bind fun t343 => (some t343)) else (some false)))) else ((choose_Keys.f k2 y332 l1).bind fun t344 => ((samphireref16_Strings.f k2 t319 t344).bind fun t347 => (if t347 = true then ((choose_Keys.f k2 l0 t319).bind fun t348 => ((samphireref16_Strings.f k2 t348 t319).bind fun t351 => (if t351 = true then ((samphirelaw19_awake.f k2).bind fun t352 => (some t352)) else (some false)))) else (some false))))) = some r := by rw [if_pos rfl] at H; exact H
                      clear H
                      have H := H1
                      clear H1
                      by_cases c36 : (l0.length : Int) ≥ 8
                      · rw [if_pos c36] at H
                        have c36b0 : decide (8 ≤ (l0.length : Int)) = true := decide_eq_true c36
                        have c36b1 : decide (8 ≤ l0.length) = true := decide_eq_true (by omega)
                        clear c36
                        replace H := Option.bind_eq_some_iff.mp H
                        obtain ⟨t339, A370, H⟩ := H
                        replace H : ((samphireref16_Strings.f k2 t339 t319).bind fun t342 => (if t342 = true then ((samphirelaw19_awake.f k2).bind fun t343 => (some t343)) else (some false))) = some r := H
                        have A37 := Aside0.mk A370
                        clear A370
                        replace H := Option.bind_eq_some_iff.mp H
                        obtain ⟨t342, A380, H⟩ := H
                        replace H : (if t342 = true then ((samphirelaw19_awake.f k2).bind fun t343 => (some t343)) else (some false)) = some r := H
                        have A38 := Aside0.mk A380
                        clear A380
                        by_cases c39 : t342 = true
                        · subst c39
                          have H1 : ((samphirelaw19_awake.f k2).bind fun t343 => (some t343)) = some r := by rw [if_pos rfl] at H; exact H
                          clear H
                          have H := H1
                          clear H1
                          replace H := Option.bind_eq_some_iff.mp H
                          obtain ⟨t343, A400, H⟩ := H
                          replace H : (some t343) = some r := H
                          have A40 := Aside0.mk A400
                          clear A400
                          obtain rfl := Option.some.inj H
                          try go_wp2_with (first | ((with_reducible refine gate_callee (f := 17) rfl ?_); refine goesL_ (some 50) rfl rfl Try.func17 (by kernel_rfl) rfl #[.slice A0 l0.length c0, .slice A1 l1.length c1] rfl (by (try simp only [List.map_toArray, List.map_cons, List.map_nil]); first | done | rfl | (simp only [List.length_drop, List.length_take]; rfl)) ?_; (with_reducible refine (choose_Keys.calls k2 _ _ l0 _ _ l1 t319 _ ?side1 ?side2 ?side3 ?side4 A29.out).mono ?_); (case side1 => repeat (first | exact (Kd.V_reads' HO_0.out).2.2 | (with_reducible refine Kd.C_alloc ?_ _) | (with_reducible refine Kd.C_drewN ?_ _) | (with_reducible refine Kd.C_drew ?_))); (case side2 => exact (Kd.V_reads' HO_0.out).2.1); (case side3 => repeat (first | exact (Kd.C_below HR1.out HB.out) | (with_reducible refine Kd.C_alloc ?_ _) | (with_reducible refine Kd.C_drewN ?_ _) | (with_reducible refine Kd.C_drew ?_))); (case side4 => exact HC1.out); rintro e w41 ⟨v320, rfl, ho0, hb⟩; refine ⟨_, rfl, ?_⟩; have n0_ := Aside0.mk (Kd.V_elder' (by (with_reducible repeat (first | apply Kd.V_alloc | apply Kd.V_drewN | apply Kd.V_drew)); exact HO_0.out) (Kd.R_base ho0) hb); have n1_ := Aside0.mk (Kd.N_elder' (by (with_reducible repeat (first | apply Kd.N_alloc | apply Kd.N_drewN | apply Kd.N_drew)); exact HO_7.out) (Kd.R_base ho0) hb); have n2_ := Aside0.mk (Kd.R_lower (Kd.R_newM (M := fun k_ => (w.heap.size ≤ k_)) ho0 (below_size (by repeat (first | (with_reducible first | exact HB.out | apply below_alloc | apply pw_below_drewN | apply below_drew1) | exact HB.out))) (fun k_ h_ => h_)) (below_size (by repeat (first | (with_reducible first | exact HB.out | apply below_alloc | apply pw_below_drewN | apply below_drew1) | exact HB.out)))); have n3_ := Aside0.mk (below_step (by repeat (first | (with_reducible first | exact HB.out | apply below_alloc | apply pw_below_drewN | apply below_drew1) | exact HB.out)) hb); clear HO_0; clear HO_7; clear HB; have HO_0 := n0_; have HO_7 := n1_; have HO321 := n2_; have HB := n3_; clear n0_ n1_ n2_ n3_; (try clear hb); (try clear hb2); (try clear hk); (try clear hi); (try clear ho0)))
                          have n0_ := Aside0.mk (Kd.V_drew HO_0.out)
                          have n1_ := Aside0.mk (Kd.N_drew HO_7.out)
                          have n2_ := Aside0.mk (Kd.R_drew HO321.out)
                          have n3_ := Aside0.mk (below_drew1 HB.out)
                          clear HO_0
                          clear HO_7
                          clear HO321
                          clear HB
                          have HO_0 := n0_
                          have HO_7 := n1_
                          have HO321 := n2_
                          have HB := n3_
                          clear n0_ n1_ n2_ n3_
                          have p328 : 0 ≤ (0 : Int) := (by omega)
                          have q328 : 0 < (l0.length : Int) := of_decide_eq_true (by first | (with_reducible assumption) | assumption)
                          obtain ⟨ad328, A328_3, c328_3, e328, hx328_0, hx328_1, hx328_2, hx328_3, hl328_3, hi328_3⟩ := at_T42 (Kd.V_reads' HO_0.out).2.2 0 p328 q328
                          cases e328
                          obtain ⟨ce328, hce328, hMe328, hcc328⟩ := Kd.V_get HO_0.out z42 0 p328 (by first | exact q328 | exact of_decide_eq_true (by first | (with_reducible assumption) | assumption) | (have e_ := (Kd.V_reads' HO_0.out).1; omega))
                          obtain ⟨ua328_3, uc328_3, rfl, ul328_3, ge328_3⟩ := k42_openF hMe328
                          have hv328_3 := hcc328 3 _ rfl
                          rw [add_field _ _ 3 (by omega)] at hv328_3
                          replace hv328_3 := Option.some.inj (hv328_3.symm.trans hx328_3)
                          injection hv328_3 with hva_ hvn_ hvc_
                          rw [hva_] at ge328_3
                          rw [hvc_] at ul328_3
                          have HL328_3 := Aside0.mk (show Kd.V Kd.string 9 _ w.heap.size _ _ ((rd_T42 l0 0).f3) from Kd.V_mk ul328_3 ge328_3)
                          clear hva_ hvn_ hvc_ ge328_3 ul328_3
                          clear hcc328 hce328
                          have qi328 : (0 < l0.length) = True := eq_true (by omega)
                          (try rw [show ((0 : Int)).toNat = 0 from rfl] at hx328_0)
                          (try rw [show 0 * 4 = 0 from rfl] at hx328_0)
                          (try rw [Addr.add_zero'] at hx328_0)
                          (try rw [show ((0 : Int)).toNat = 0 from rfl] at hx328_1)
                          (try rw [show 0 * 4 = 0 from rfl] at hx328_1)
                          (try rw [Addr.add_zero'] at hx328_1)
                          (try rw [show ((0 : Int)).toNat = 0 from rfl] at hx328_2)
                          (try rw [show 0 * 4 = 0 from rfl] at hx328_2)
                          (try rw [Addr.add_zero'] at hx328_2)
                          (try rw [show ((0 : Int)).toNat = 0 from rfl] at hx328_3)
                          (try rw [show 0 * 4 = 0 from rfl] at hx328_3)
                          (try rw [Addr.add_zero'] at hx328_3)
                          have HR328_3 := Aside0.mk hi328_3
                          have HC328_3 := Aside0.mk hl328_3
                          clear hi328_3 hl328_3
                          replace p328 := eq_true p328
                          replace q328 := eq_true q328
                          refine start_ (n := 9) (S := fun w' => w'.cell? ad328 = some (.int .i64 ((rd_T42 l0 0).f0)) ∧ w'.cell? ⟨ad328.block, ad328.off + 1, none⟩ = some (.string ((rd_T42 l0 0).f1)) ∧ w'.cell? ⟨ad328.block, ad328.off + 2, none⟩ = some (.string ((rd_T42 l0 0).f2)) ∧ w'.cell? ⟨ad328.block, ad328.off + 3, none⟩ = some (.slice A328_3 ((rd_T42 l0 0).f3).length c328_3)) (ds := []) #[false, false, false, false, false, false, false, false, false] (by kernel_rfl) rfl rfl ⟨hx328_0, hx328_1, hx328_2, hx328_3⟩ (fun hHeld => ?_); refine with_tabW samphirelaw19_ChooseTurned.tab10 samphirelaw19_ChooseTurned.bits10 (fun HT_ HW_ => ?_)
                          generalize w41.drew = w42 at HO_0 HO_7 HO321 HB HL328_3 HR328_3 hx328_0 hx328_1 hx328_2 hx328_3 hHeld ⊢
                          refine pure_ (i := 1) (N := some 52) (v := ?_) (a' := ?_) #[false, true, false, false, false, false, false, false, false] rfl rfl (any_of HT_.out (by kernel_rfl)) (fun _ _ _ h => h) (Or.inl ⟨by rfl, ?_⟩) ?_ ?_
                          rotate_left
                          · intro w'
                            go_simp
                            with_reducible rfl
                          rotate_left
                          · simp only [Act.put, List.setIfInBounds_toArray, List.set_cons_zero, List.set_cons_succ, i64_w, i32_w]
                            rfl
                          refine pure_ (i := 3) (N := some 54) (v := ?_) (a' := ?_) #[false, true, false, true, false, false, false, false, false] rfl rfl (any_of HT_.out (by kernel_rfl)) (fun _ _ _ h => h) (Or.inl ⟨by rfl, ?_⟩) ?_ ?_
                          rotate_left
                          · intro w'
                            go_simp
                            with_reducible rfl
                          rotate_left
                          · simp only [Act.put, List.setIfInBounds_toArray, List.set_cons_zero, List.set_cons_succ, i64_w, i32_w]
                            rfl
                          refine pure_ (i := 4) (N := some 55) (v := ?_) (a' := ?_) #[false, true, false, true, true, false, false, false, false] rfl rfl (any_of HT_.out (by kernel_rfl)) (fun _ _ _ h => h) (Or.inl ⟨by rfl, ?_⟩) ?_ ?_
                          rotate_left
                          · intro w'
                            go_simp
                            with_reducible rfl
                          rotate_left
                          · simp only [Act.put, List.setIfInBounds_toArray, List.set_cons_zero, List.set_cons_succ, i64_w, i32_w]
                            rfl
                          refine take_ (i := 5) (N := some 56) (v := ?_) (a' := ?_) #[false, true, false, true, true, true, false, false, false] rfl rfl (take_ofW HT_.out HW_.out (by kernel_rfl)) (fun _ _ _ h => h) (Or.inl ⟨by rfl, ?_⟩) hHeld ?_ ?_
                          rotate_left
                          · rintro w' ⟨s0, s1, s2, s3⟩
                            go_simp
                            with_reducible rfl
                          rotate_left
                          · simp only [Act.put, List.setIfInBounds_toArray, List.set_cons_zero, List.set_cons_succ, i64_w, i32_w]
                            rfl
                          refine join_ (σ := Value × Value × Value) 2 #[true, true, true, true, true, true, true, false, false] (fun s_ => [(51, s_.1), (53, s_.2.1), (57, s_.2.2)]) (fun s_ w' => (w'.cell? ad328 = some (.int .i64 ((rd_T42 l0 0).f0)) ∧ w'.cell? ⟨ad328.block, ad328.off + 1, none⟩ = some (.string ((rd_T42 l0 0).f1)) ∧ w'.cell? ⟨ad328.block, ad328.off + 2, none⟩ = some (.string ((rd_T42 l0 0).f2)) ∧ w'.cell? ⟨ad328.block, ad328.off + 3, none⟩ = some (.slice A328_3 ((rd_T42 l0 0).f3).length c328_3)) ∧ (Kd.V Kd.string 9 w' w.heap.size (fun k_ => (P0_ k_ ∨ w.heap.size ≤ k_) ∧ some k_ ≠ (v320 : Value).ownBlock ∧ some k_ ≠ (s_.2.1 : Value).ownBlock ∧ some k_ ≠ (s_.2.2 : Value).ownBlock ∧ some k_ ≠ (u7 : Value).ownBlock) (.slice A328_3 ((rd_T42 l0 0).f3).length c328_3) ((rd_T42 l0 0).f3)) ∧ (Kd.R Kd.string 9 w' w.heap.size (fun k_ => (w.heap.size ≤ k_)) v320 t319) ∧ (Kd.N k42 42 w' w.heap.size (fun k_ => (P0_ k_ ∨ w.heap.size ≤ k_) ∧ some k_ ≠ (v320 : Value).ownBlock ∧ some k_ ≠ (s_.2.2 : Value).ownBlock ∧ some k_ ≠ (u7 : Value).ownBlock) s_.2.1 y325) ∧ (Kd.N k42 42 w' w.heap.size (fun k_ => (P0_ k_ ∨ w.heap.size ≤ k_) ∧ some k_ ≠ (v320 : Value).ownBlock ∧ some k_ ≠ (s_.2.1 : Value).ownBlock ∧ some k_ ≠ (u7 : Value).ownBlock) s_.2.2 y329) ∧ (Kd.V k42 42 w' w.heap.size (fun k_ => (P0_ k_ ∨ w.heap.size ≤ k_) ∧ some k_ ≠ (v320 : Value).ownBlock ∧ some k_ ≠ (s_.2.1 : Value).ownBlock ∧ some k_ ≠ (s_.2.2 : Value).ownBlock ∧ some k_ ≠ (u7 : Value).ownBlock) (.slice (some ad328) l0.length c0) l0) ∧ (Kd.N k42 42 w' w.heap.size (fun k_ => (P0_ k_ ∨ w.heap.size ≤ k_) ∧ some k_ ≠ (v320 : Value).ownBlock ∧ some k_ ≠ (s_.2.1 : Value).ownBlock ∧ some k_ ≠ (s_.2.2 : Value).ownBlock) u7 x7_2) ∧ (Below w.heap.size w w')) ?_ ?_
                          rotate_left
                          · intro hCont
                            refine two_ (i := 0) (j := 6) (Ni := some 51) (Nj := some 57) #[true, true, false, true, true, true, false, false, false] #[false, true, false, true, true, true, true, false, false] rfl rfl rfl rfl (two_of HT_.out (by kernel_rfl)) (by decide) (by decide) (fun K hK => ?_) (fun K hK => ?_)
                            · skip
                              refine Kd.N_lit_step k42 _ 42 ?hg (N' := 51) ?hd (xs := ([] : List (S42))) (inner := []) (ok := (fun k_ => (P0_ k_ ∨ w.heap.size ≤ k_) ∧ some k_ ≠ (u7 : Value).ownBlock ∧ some k_ ≠ (v320 : Value).ownBlock)) (okp := (fun k_ => (P0_ k_ ∨ w.heap.size ≤ k_) ∧ some k_ ≠ (u7 : Value).ownBlock ∧ some k_ ≠ (v320 : Value).ownBlock)) ?hr ?hp (fun _ hk => hk) ((show ∀ k_, w42.heap.size ≤ k_ → (fun k_ => (P0_ k_ ∨ w.heap.size ≤ k_) ∧ some k_ ≠ (u7 : Value).ownBlock ∧ some k_ ≠ (v320 : Value).ownBlock) k_ from fun k_ hk => ⟨(.inr (Nat.le_trans (below_size (by repeat (first | (with_reducible first | exact HB.out | apply below_alloc | apply pw_below_drewN | apply below_drew1) | exact HB.out))) hk)), Kd.fresh' (Kd.N_lt (by (with_reducible repeat (first | apply Kd.N_alloc | apply Kd.N_drewN | apply Kd.N_drew)); exact HO_7.out)) k_ hk, Kd.fresh' (Kd.R_lt (by (with_reducible repeat (first | apply Kd.R_alloc | apply Kd.R_drewN | apply Kd.R_drew)); exact HO321.out)) k_ hk⟩) _ (Nat.le_refl _)) (Below.refl _ _) (Nat.le_refl _) (by simp) ?_; (case hd => rfl); (case hg => rfl); (case hr => first | (go_simp; done) | (go_simp; rfl)); (case hp => exact (Reps.none _ _))
                              intro v323 w43 ho44 hb hg_ hnew_
                              have HS0_ := (hb.cell (World.block_lt_of_cell? _ _ (hHeld.1))).trans (hHeld.1)
                              have HS1_ := (hb.cell (World.block_lt_of_cell? _ _ (hHeld.2.1))).trans (hHeld.2.1)
                              have HS2_ := (hb.cell (World.block_lt_of_cell? _ _ (hHeld.2.2.1))).trans (hHeld.2.2.1)
                              have HS3_ := (hb.cell (World.block_lt_of_cell? _ _ (hHeld.2.2.2))).trans (hHeld.2.2.2)
                              clear hg_ hnew_
                              (first | rw [← Ny322.out] at ho44 | (simp only [Int.reduceToNat] at ho44; rw [← Ny322.out] at ho44))
                              have n0_ := Aside0.mk (Kd.V_elder' (by (with_reducible repeat (first | apply Kd.V_alloc | apply Kd.V_drewN | apply Kd.V_drew)); exact HO_0.out) (Kd.N_base ho44) hb)
                              have n1_ := Aside0.mk (Kd.N_elder' (by (with_reducible repeat (first | apply Kd.N_alloc | apply Kd.N_drewN | apply Kd.N_drew)); exact HO_7.out) (Kd.N_base ho44) hb)
                              have n2_ := Aside0.mk (Kd.R_below (by (with_reducible repeat (first | apply Kd.R_alloc | apply Kd.R_drewN | apply Kd.R_drew)); exact HO321.out) hb)
                              have n3_ := Aside0.mk (Kd.V_elder' (by (with_reducible repeat (first | apply Kd.V_alloc | apply Kd.V_drewN | apply Kd.V_drew)); exact HL328_3.out) (Kd.N_base ho44) hb)
                              have n4_ := Aside0.mk (Kd.N_lower ho44 (below_size (by repeat (first | (with_reducible first | exact HB.out | apply below_alloc | apply pw_below_drewN | apply below_drew1) | exact HB.out))))
                              have n5_ := Aside0.mk (Kd.C_below (by repeat (first | (with_reducible exact HR328_3.out) | (with_reducible refine Kd.C_alloc ?_ _) | (with_reducible refine Kd.C_drewN ?_ _) | (with_reducible refine Kd.C_drew ?_) | exact HR328_3.out)) hb)
                              have n6_ := Aside0.mk (below_step (by repeat (first | (with_reducible first | exact HB.out | apply below_alloc | apply pw_below_drewN | apply below_drew1) | exact HB.out)) hb)
                              clear HO_0
                              clear HO_7
                              clear HO321
                              clear HL328_3
                              clear HR328_3
                              clear HB
                              have HO_0 := n0_
                              have HO_7 := n1_
                              have HO321 := n2_
                              have HL328_3 := n3_
                              have HO324 := n4_
                              have HR328_3 := n5_
                              have HB := n6_
                              clear n0_ n1_ n2_ n3_ n4_ n5_ n6_
                              clear hb ho44
                              refine hK.out _ _ ⟨HS0_, HS1_, HS2_, HS3_⟩ (fun hHeld => ?_)
                              clear hK K
                              refine norm_ (a' := ?_) ?_ ?_
                              rotate_left
                              · show Act.put _ (some 51) _ = _
                                simp only [Act.put, List.setIfInBounds_toArray, List.set_cons_zero, List.set_cons_succ, i64_w, i32_w]
                                rfl
                              refine two_ (i := 2) (j := 6) (Ni := some 53) (Nj := some 57) #[true, true, true, true, true, true, false, false, false] #[true, true, false, true, true, true, true, false, false] rfl rfl rfl rfl (two_of HT_.out (by kernel_rfl)) (by decide) (by decide) (fun K hK => ?_) (fun K hK => ?_)
                              · skip
                                refine Kd.N_append_rows_step k42 (w0 := w) w.heap.size (by rfl) (.tmp 51) (.tmp 52) 22 42 (.agg #[(.int .i64 0), (.string ⟨#[]⟩), (.string ⟨#[]⟩), (.slice none 0 0)]) 64 rfl Try.underlying22 info42 rfl (by decide) (by omega) v323 y322 l0 _ _ _ (fun k_ => (P0_ k_ ∨ w.heap.size ≤ k_) ∧ some k_ ≠ (u7 : Value).ownBlock ∧ some k_ ≠ (v320 : Value).ownBlock) (fun k_ => ((fun k_ => (P0_ k_ ∨ w.heap.size ≤ k_) ∧ some k_ ≠ (u7 : Value).ownBlock ∧ some k_ ≠ (v320 : Value).ownBlock)) k_ ∧ some k_ ≠ (v323 : Value).ownBlock) rfl rfl ?aO ?aR (fun _ hk => hk) ?aF ?aB ?aS ?aL ?_
                                (case aR => exact (by skip; exact Kd.V_F (Kd.V_mono (ok' := (fun k_ => ((fun k_ => (P0_ k_ ∨ w.heap.size ≤ k_) ∧ some k_ ≠ (u7 : Value).ownBlock ∧ some k_ ≠ (v320 : Value).ownBlock)) k_ ∧ some k_ ≠ (v323 : Value).ownBlock)) (HO_0.out) (fun k_ hk => ⟨⟨hk.1.1.1, ⟨hk.1.1.2, hk.1.2⟩⟩, hk.2⟩))))
                                (case aB => exact (by repeat (first | (with_reducible first | exact HB.out | apply below_alloc | apply pw_below_drewN | apply below_drew1) | exact HB.out)))
                                (case aF => exact (fun k_ hk => ⟨(.inr (Nat.le_trans (below_size (by repeat (first | (with_reducible first | exact HB.out | apply below_alloc | apply pw_below_drewN | apply below_drew1) | exact HB.out))) hk)), Kd.fresh' (Kd.N_lt (by (with_reducible repeat (first | apply Kd.N_alloc | apply Kd.N_drewN | apply Kd.N_drew)); exact HO_7.out)) k_ hk, Kd.fresh' (Kd.R_lt (by (with_reducible repeat (first | apply Kd.R_alloc | apply Kd.R_drewN | apply Kd.R_drew)); exact HO321.out)) k_ hk⟩))
                                (case aO => exact (by (with_reducible repeat (first | apply Kd.N_alloc | apply Kd.N_drewN | apply Kd.N_drew)); exact HO324.out))
                                (case aS => exact (below_size (by repeat (first | (with_reducible first | exact HB.out | apply below_alloc | apply pw_below_drewN | apply below_drew1) | exact HB.out))))
                                (case aL => have := LMc30.out; omega)
                                intro v326 w45 ho hb hg hat
                                have HS0_ := cell_grown hg (hHeld.1) (by have hk_ := Go.Proofs.YtnpipaehcklnbaaW.Fb.V_ok HO_0.out (by decide) (by have h_ : (0 : Int) < (l0.length : Int) := (by first | (exact of_decide_eq_true (by first | (with_reducible assumption) | assumption)) | omega); omega); first | exact hk_.2 | exact hk_.2.2 | exact hk_.2.1 | exact hk_.1.2 | exact hk_.2.2.1 | exact hk_.2.2.2 | exact hk_.1.2.2 | exact hk_.1.2.1 | exact hk_.2.1.2 | exact hk_.2.1.1)
                                have HS1_ := cell_grown hg (hHeld.2.1) (by have hk_ := Go.Proofs.YtnpipaehcklnbaaW.Fb.V_ok HO_0.out (by decide) (by have h_ : (0 : Int) < (l0.length : Int) := (by first | (exact of_decide_eq_true (by first | (with_reducible assumption) | assumption)) | omega); omega); first | exact hk_.2 | exact hk_.2.2 | exact hk_.2.1 | exact hk_.1.2 | exact hk_.2.2.1 | exact hk_.2.2.2 | exact hk_.1.2.2 | exact hk_.1.2.1 | exact hk_.2.1.2 | exact hk_.2.1.1)
                                have HS2_ := cell_grown hg (hHeld.2.2.1) (by have hk_ := Go.Proofs.YtnpipaehcklnbaaW.Fb.V_ok HO_0.out (by decide) (by have h_ : (0 : Int) < (l0.length : Int) := (by first | (exact of_decide_eq_true (by first | (with_reducible assumption) | assumption)) | omega); omega); first | exact hk_.2 | exact hk_.2.2 | exact hk_.2.1 | exact hk_.1.2 | exact hk_.2.2.1 | exact hk_.2.2.2 | exact hk_.1.2.2 | exact hk_.1.2.1 | exact hk_.2.1.2 | exact hk_.2.1.1)
                                have HS3_ := cell_grown hg (hHeld.2.2.2) (by have hk_ := Go.Proofs.YtnpipaehcklnbaaW.Fb.V_ok HO_0.out (by decide) (by have h_ : (0 : Int) < (l0.length : Int) := (by first | (exact of_decide_eq_true (by first | (with_reducible assumption) | assumption)) | omega); omega); first | exact hk_.2 | exact hk_.2.2 | exact hk_.2.1 | exact hk_.1.2 | exact hk_.2.2.1 | exact hk_.2.2.2 | exact hk_.1.2.2 | exact hk_.1.2.1 | exact hk_.2.1.2 | exact hk_.2.1.1)
                                rw [← Ny325.out] at ho
                                have n0_ := Aside0.mk (Kd.V_afterv (ok := (fun k_ => (P0_ k_ ∨ w.heap.size ≤ k_) ∧ some k_ ≠ (u7 : Value).ownBlock ∧ some k_ ≠ (v320 : Value).ownBlock)) (by (with_reducible repeat (first | apply Kd.V_alloc | apply Kd.V_drewN | apply Kd.V_drew)); exact Kd.V_mono HO_0.out (fun _ hk => ⟨⟨hk.1.1.1, ⟨hk.1.1.2, hk.1.2⟩⟩, hk.2⟩)) hg hat)
                                have n1_ := Aside0.mk (Kd.N_afterv (ok := (fun k_ => (P0_ k_ ∨ w.heap.size ≤ k_) ∧ some k_ ≠ (v320 : Value).ownBlock)) (by (with_reducible repeat (first | apply Kd.N_alloc | apply Kd.N_drewN | apply Kd.N_drew)); exact HO_7.out) hg hat)
                                have n2_ := Aside0.mk (Kd.R_over' (by (with_reducible repeat (first | apply Kd.R_alloc | apply Kd.R_drewN | apply Kd.R_drew)); exact HO321.out) (Kd.N_typed (by (with_reducible repeat (first | apply Kd.N_alloc | apply Kd.N_drewN | apply Kd.N_drew)); exact HO324.out)) (by decide) hg)
                                have n3_ := Aside0.mk (Kd.V_afterv (ok := (fun k_ => (P0_ k_ ∨ w.heap.size ≤ k_) ∧ some k_ ≠ (u7 : Value).ownBlock ∧ some k_ ≠ (v320 : Value).ownBlock)) (by (with_reducible repeat (first | apply Kd.V_alloc | apply Kd.V_drewN | apply Kd.V_drew)); exact Kd.V_mono HL328_3.out (fun _ hk => ⟨⟨hk.1.1.1, ⟨hk.1.1.2, hk.1.2⟩⟩, hk.2⟩)) hg hat)
                                have n4_ := Aside0.mk (hb)
                                have n5_ := Aside0.mk (ho)
                                clear HO_0
                                clear HO_7
                                clear HO321
                                clear HL328_3
                                clear HB
                                clear HO324
                                have HO_0 := n0_
                                have HO_7 := n1_
                                have HO321 := n2_
                                have HL328_3 := n3_
                                have HB := n4_
                                have HO327 := n5_
                                clear n0_ n1_ n2_ n3_ n4_ n5_
                                clear ho hb hg hat
                                refine hK.out _ _ ⟨HS0_, HS1_, HS2_, HS3_⟩ (fun hHeld => ?_)
                                clear hK K
                                refine norm_ (a' := ?_) ?_ ?_
                                rotate_left
                                · show Act.put _ (some 53) _ = _
                                  simp only [Act.put, List.setIfInBounds_toArray, List.set_cons_zero, List.set_cons_succ, i64_w, i32_w]
                                  rfl
                                refine one_ (i := 6) (N := some 57) #[true, true, true, true, true, true, true, false, false] rfl rfl (one_of HT_.out (by kernel_rfl)) (by decide) (fun K hK => ?_)
                                refine Kd.N_lit_step k42 _ 42 ?hg (N' := 57) ?hd (xs := ([(⟨(rd_T42 l0 0).f0, (rd_T42 l0 0).f1, (rd_T42 l0 0).f2, (rd_T42 l0 0).f3⟩ : S42)] : List (S42))) (inner := [.int .i64 ((rd_T42 l0 0).f0), .string ((rd_T42 l0 0).f1), .string ((rd_T42 l0 0).f2), .slice A328_3 ((rd_T42 l0 0).f3).length c328_3]) (ok := (fun k_ => (P0_ k_ ∨ w.heap.size ≤ k_) ∧ some k_ ≠ (u7 : Value).ownBlock ∧ some k_ ≠ (v320 : Value).ownBlock ∧ some k_ ≠ (v326 : Value).ownBlock)) (okp := (fun k_ => (P0_ k_ ∨ w.heap.size ≤ k_) ∧ some k_ ≠ (u7 : Value).ownBlock ∧ some k_ ≠ (v320 : Value).ownBlock ∧ some k_ ≠ (v326 : Value).ownBlock)) ?hr ?hp (fun _ hk => hk) ((show ∀ k_, w45.heap.size ≤ k_ → (fun k_ => (P0_ k_ ∨ w.heap.size ≤ k_) ∧ some k_ ≠ (u7 : Value).ownBlock ∧ some k_ ≠ (v320 : Value).ownBlock ∧ some k_ ≠ (v326 : Value).ownBlock) k_ from fun k_ hk => ⟨(.inr (Nat.le_trans (below_size (by repeat (first | (with_reducible first | exact HB.out | apply below_alloc | apply pw_below_drewN | apply below_drew1) | exact HB.out))) hk)), Kd.fresh' (Kd.N_lt (by (with_reducible repeat (first | apply Kd.N_alloc | apply Kd.N_drewN | apply Kd.N_drew)); exact HO_7.out)) k_ hk, Kd.fresh' (Kd.R_lt (by (with_reducible repeat (first | apply Kd.R_alloc | apply Kd.R_drewN | apply Kd.R_drew)); exact HO321.out)) k_ hk, Kd.fresh' (Kd.N_lt (by (with_reducible repeat (first | apply Kd.N_alloc | apply Kd.N_drewN | apply Kd.N_drew)); exact HO327.out)) k_ hk⟩) _ (Nat.le_refl _)) (Below.refl _ _) (Nat.le_refl _) (by simp) ?_; (case hd => rfl); (case hg => rfl); (case hr => first | (go_simp; done) | (go_simp; rfl)); (case hp => exact (Reps.c4 (show Kd.FK k42 _ _ (⟨(rd_T42 l0 0).f0, (rd_T42 l0 0).f1, (rd_T42 l0 0).f2, (rd_T42 l0 0).f3⟩ : S42) [.int .i64 ((rd_T42 l0 0).f0), .string ((rd_T42 l0 0).f1), .string ((rd_T42 l0 0).f2), .slice A328_3 ((rd_T42 l0 0).f3).length c328_3] from (k42_mkF _ _ (⟨(rd_T42 l0 0).f0, (rd_T42 l0 0).f1, (rd_T42 l0 0).f2, (rd_T42 l0 0).f3⟩ : S42) (Kd.V_reads' (Kd.V_mono (ok' := (fun k_ => (P0_ k_ ∨ w.heap.size ≤ k_) ∧ some k_ ≠ (u7 : Value).ownBlock ∧ some k_ ≠ (v320 : Value).ownBlock ∧ some k_ ≠ (v326 : Value).ownBlock)) (HL328_3.out) (fun k_ hk => ⟨hk.1.1, ⟨hk.1.2.1, ⟨hk.1.2.2, hk.2⟩⟩⟩))).2.1 (Kd.V_F (Kd.V_mono (ok' := (fun k_ => (P0_ k_ ∨ w.heap.size ≤ k_) ∧ some k_ ≠ (u7 : Value).ownBlock ∧ some k_ ≠ (v320 : Value).ownBlock ∧ some k_ ≠ (v326 : Value).ownBlock)) (HL328_3.out) (fun k_ hk => ⟨hk.1.1, ⟨hk.1.2.1, ⟨hk.1.2.2, hk.2⟩⟩⟩))))) (Reps.none _ _)))
                                intro v330 w46 ho47 hb hg_ hnew_
                                have HS0_ := (hb.cell (World.block_lt_of_cell? _ _ (hHeld.1))).trans (hHeld.1)
                                have HS1_ := (hb.cell (World.block_lt_of_cell? _ _ (hHeld.2.1))).trans (hHeld.2.1)
                                have HS2_ := (hb.cell (World.block_lt_of_cell? _ _ (hHeld.2.2.1))).trans (hHeld.2.2.1)
                                have HS3_ := (hb.cell (World.block_lt_of_cell? _ _ (hHeld.2.2.2))).trans (hHeld.2.2.2)
                                clear hg_ hnew_
                                (first | rw [← Ny329.out] at ho47 | (simp only [Int.reduceToNat] at ho47; rw [← Ny329.out] at ho47))
                                have n0_ := Aside0.mk (Kd.V_elder' (by (with_reducible repeat (first | apply Kd.V_alloc | apply Kd.V_drewN | apply Kd.V_drew)); exact HO_0.out) (Kd.N_base ho47) hb)
                                have n1_ := Aside0.mk (Kd.N_elder' (by (with_reducible repeat (first | apply Kd.N_alloc | apply Kd.N_drewN | apply Kd.N_drew)); exact HO_7.out) (Kd.N_base ho47) hb)
                                have n2_ := Aside0.mk (Kd.R_below (by (with_reducible repeat (first | apply Kd.R_alloc | apply Kd.R_drewN | apply Kd.R_drew)); exact HO321.out) hb)
                                have n3_ := Aside0.mk (Kd.V_elder' (by (with_reducible repeat (first | apply Kd.V_alloc | apply Kd.V_drewN | apply Kd.V_drew)); exact HL328_3.out) (Kd.N_base ho47) hb)
                                have n4_ := Aside0.mk (Kd.N_elder' (by (with_reducible repeat (first | apply Kd.N_alloc | apply Kd.N_drewN | apply Kd.N_drew)); exact HO327.out) (Kd.N_base ho47) hb)
                                have n5_ := Aside0.mk (Kd.N_lower ho47 (below_size (by repeat (first | (with_reducible first | exact HB.out | apply below_alloc | apply pw_below_drewN | apply below_drew1) | exact HB.out))))
                                have n6_ := Aside0.mk (below_step (by repeat (first | (with_reducible first | exact HB.out | apply below_alloc | apply pw_below_drewN | apply below_drew1) | exact HB.out)) hb)
                                clear HO_0
                                clear HO_7
                                clear HO321
                                clear HL328_3
                                clear HO327
                                clear HB
                                have HO_0 := n0_
                                have HO_7 := n1_
                                have HO321 := n2_
                                have HL328_3 := n3_
                                have HO327 := n4_
                                have HO331 := n5_
                                have HB := n6_
                                clear n0_ n1_ n2_ n3_ n4_ n5_ n6_
                                clear hb ho47
                                refine hK.out _ _ ⟨HS0_, HS1_, HS2_, HS3_⟩ (fun hHeld => ?_)
                                clear hK K
                                refine norm_ (a' := ?_) ?_ ?_
                                rotate_left
                                · show Act.put _ (some 57) _ = _
                                  simp only [Act.put, List.setIfInBounds_toArray, List.set_cons_zero, List.set_cons_succ, i64_w, i32_w]
                                  rfl
                                exact norm_ (by simp only [putAll, Act.put, List.setIfInBounds_toArray, List.set_cons_zero, List.set_cons_succ]) (hCont (v323, v326, v330) _ ⟨hHeld, (by (with_reducible repeat (first | apply Kd.V_alloc | apply Kd.V_drewN | apply Kd.V_drew)); exact Kd.V_mono HL328_3.out (fun _ hk => ⟨hk.1.1.1, ⟨hk.1.1.2.2, ⟨hk.1.2, ⟨hk.2, hk.1.1.2.1⟩⟩⟩⟩)), (by (with_reducible repeat (first | apply Kd.R_alloc | apply Kd.R_drewN | apply Kd.R_drew)); exact Kd.R_mono HO321.out (fun _ hk => hk.1)), (by (with_reducible repeat (first | apply Kd.N_alloc | apply Kd.N_drewN | apply Kd.N_drew)); exact Kd.N_mono HO327.out (fun _ hk => ⟨hk.1.1, ⟨hk.1.2.2, ⟨hk.2, hk.1.2.1⟩⟩⟩)), (by (with_reducible repeat (first | apply Kd.N_alloc | apply Kd.N_drewN | apply Kd.N_drew)); exact Kd.N_mono HO331.out (fun _ hk => ⟨hk.1, ⟨hk.2.2.1, ⟨hk.2.2.2, hk.2.1⟩⟩⟩)), (by (with_reducible repeat (first | apply Kd.V_alloc | apply Kd.V_drewN | apply Kd.V_drew)); exact Kd.V_mono HO_0.out (fun _ hk => ⟨hk.1.1.1, ⟨hk.1.1.2.2, ⟨hk.1.2, ⟨hk.2, hk.1.1.2.1⟩⟩⟩⟩)), (by (with_reducible repeat (first | apply Kd.N_alloc | apply Kd.N_drewN | apply Kd.N_drew)); exact Kd.N_mono HO_7.out (fun _ hk => ⟨hk.1.1.1, ⟨hk.1.1.2, ⟨hk.1.2, hk.2⟩⟩⟩)), (by repeat (first | (with_reducible first | exact HB.out | apply below_alloc | apply pw_below_drewN | apply below_drew1) | exact HB.out))⟩)
                              · skip
                                refine Kd.N_lit_step k42 _ 42 ?hg (N' := 57) ?hd (xs := ([(⟨(rd_T42 l0 0).f0, (rd_T42 l0 0).f1, (rd_T42 l0 0).f2, (rd_T42 l0 0).f3⟩ : S42)] : List (S42))) (inner := [.int .i64 ((rd_T42 l0 0).f0), .string ((rd_T42 l0 0).f1), .string ((rd_T42 l0 0).f2), .slice A328_3 ((rd_T42 l0 0).f3).length c328_3]) (ok := (fun k_ => (P0_ k_ ∨ w.heap.size ≤ k_) ∧ some k_ ≠ (u7 : Value).ownBlock ∧ some k_ ≠ (v320 : Value).ownBlock ∧ some k_ ≠ (v323 : Value).ownBlock)) (okp := (fun k_ => (P0_ k_ ∨ w.heap.size ≤ k_) ∧ some k_ ≠ (u7 : Value).ownBlock ∧ some k_ ≠ (v320 : Value).ownBlock ∧ some k_ ≠ (v323 : Value).ownBlock)) ?hr ?hp (fun _ hk => hk) ((show ∀ k_, w43.heap.size ≤ k_ → (fun k_ => (P0_ k_ ∨ w.heap.size ≤ k_) ∧ some k_ ≠ (u7 : Value).ownBlock ∧ some k_ ≠ (v320 : Value).ownBlock ∧ some k_ ≠ (v323 : Value).ownBlock) k_ from fun k_ hk => ⟨(.inr (Nat.le_trans (below_size (by repeat (first | (with_reducible first | exact HB.out | apply below_alloc | apply pw_below_drewN | apply below_drew1) | exact HB.out))) hk)), Kd.fresh' (Kd.N_lt (by (with_reducible repeat (first | apply Kd.N_alloc | apply Kd.N_drewN | apply Kd.N_drew)); exact HO_7.out)) k_ hk, Kd.fresh' (Kd.R_lt (by (with_reducible repeat (first | apply Kd.R_alloc | apply Kd.R_drewN | apply Kd.R_drew)); exact HO321.out)) k_ hk, Kd.fresh' (Kd.N_lt (by (with_reducible repeat (first | apply Kd.N_alloc | apply Kd.N_drewN | apply Kd.N_drew)); exact HO324.out)) k_ hk⟩) _ (Nat.le_refl _)) (Below.refl _ _) (Nat.le_refl _) (by simp) ?_; (case hd => rfl); (case hg => rfl); (case hr => first | (go_simp; done) | (go_simp; rfl)); (case hp => exact (Reps.c4 (show Kd.FK k42 _ _ (⟨(rd_T42 l0 0).f0, (rd_T42 l0 0).f1, (rd_T42 l0 0).f2, (rd_T42 l0 0).f3⟩ : S42) [.int .i64 ((rd_T42 l0 0).f0), .string ((rd_T42 l0 0).f1), .string ((rd_T42 l0 0).f2), .slice A328_3 ((rd_T42 l0 0).f3).length c328_3] from (k42_mkF _ _ (⟨(rd_T42 l0 0).f0, (rd_T42 l0 0).f1, (rd_T42 l0 0).f2, (rd_T42 l0 0).f3⟩ : S42) (Kd.V_reads' (Kd.V_mono (ok' := (fun k_ => (P0_ k_ ∨ w.heap.size ≤ k_) ∧ some k_ ≠ (u7 : Value).ownBlock ∧ some k_ ≠ (v320 : Value).ownBlock ∧ some k_ ≠ (v323 : Value).ownBlock)) (HL328_3.out) (fun k_ hk => ⟨hk.1.1.1, ⟨hk.1.1.2, ⟨hk.1.2, hk.2⟩⟩⟩))).2.1 (Kd.V_F (Kd.V_mono (ok' := (fun k_ => (P0_ k_ ∨ w.heap.size ≤ k_) ∧ some k_ ≠ (u7 : Value).ownBlock ∧ some k_ ≠ (v320 : Value).ownBlock ∧ some k_ ≠ (v323 : Value).ownBlock)) (HL328_3.out) (fun k_ hk => ⟨hk.1.1.1, ⟨hk.1.1.2, ⟨hk.1.2, hk.2⟩⟩⟩))))) (Reps.none _ _)))
                                intro v330 w45 ho46 hb hg_ hnew_
                                have HS0_ := (hb.cell (World.block_lt_of_cell? _ _ (hHeld.1))).trans (hHeld.1)
                                have HS1_ := (hb.cell (World.block_lt_of_cell? _ _ (hHeld.2.1))).trans (hHeld.2.1)
                                have HS2_ := (hb.cell (World.block_lt_of_cell? _ _ (hHeld.2.2.1))).trans (hHeld.2.2.1)
                                have HS3_ := (hb.cell (World.block_lt_of_cell? _ _ (hHeld.2.2.2))).trans (hHeld.2.2.2)
                                clear hg_ hnew_
                                (first | rw [← Ny329.out] at ho46 | (simp only [Int.reduceToNat] at ho46; rw [← Ny329.out] at ho46))
                                have n0_ := Aside0.mk (Kd.V_elder' (by (with_reducible repeat (first | apply Kd.V_alloc | apply Kd.V_drewN | apply Kd.V_drew)); exact HO_0.out) (Kd.N_base ho46) hb)
                                have n1_ := Aside0.mk (Kd.N_elder' (by (with_reducible repeat (first | apply Kd.N_alloc | apply Kd.N_drewN | apply Kd.N_drew)); exact HO_7.out) (Kd.N_base ho46) hb)
                                have n2_ := Aside0.mk (Kd.R_below (by (with_reducible repeat (first | apply Kd.R_alloc | apply Kd.R_drewN | apply Kd.R_drew)); exact HO321.out) hb)
                                have n3_ := Aside0.mk (Kd.V_elder' (by (with_reducible repeat (first | apply Kd.V_alloc | apply Kd.V_drewN | apply Kd.V_drew)); exact HL328_3.out) (Kd.N_base ho46) hb)
                                have n4_ := Aside0.mk (Kd.N_elder' (by (with_reducible repeat (first | apply Kd.N_alloc | apply Kd.N_drewN | apply Kd.N_drew)); exact HO324.out) (Kd.N_base ho46) hb)
                                have n5_ := Aside0.mk (Kd.N_lower ho46 (below_size (by repeat (first | (with_reducible first | exact HB.out | apply below_alloc | apply pw_below_drewN | apply below_drew1) | exact HB.out))))
                                have n6_ := Aside0.mk (Kd.C_below (by repeat (first | (with_reducible exact HR328_3.out) | (with_reducible refine Kd.C_alloc ?_ _) | (with_reducible refine Kd.C_drewN ?_ _) | (with_reducible refine Kd.C_drew ?_) | exact HR328_3.out)) hb)
                                have n7_ := Aside0.mk (below_step (by repeat (first | (with_reducible first | exact HB.out | apply below_alloc | apply pw_below_drewN | apply below_drew1) | exact HB.out)) hb)
                                clear HO_0
                                clear HO_7
                                clear HO321
                                clear HL328_3
                                clear HO324
                                clear HR328_3
                                clear HB
                                have HO_0 := n0_
                                have HO_7 := n1_
                                have HO321 := n2_
                                have HL328_3 := n3_
                                have HO324 := n4_
                                have HO331 := n5_
                                have HR328_3 := n6_
                                have HB := n7_
                                clear n0_ n1_ n2_ n3_ n4_ n5_ n6_ n7_
                                clear hb ho46
                                refine hK.out _ _ ⟨HS0_, HS1_, HS2_, HS3_⟩ (fun hHeld => ?_)
                                clear hK K
                                refine norm_ (a' := ?_) ?_ ?_
                                rotate_left
                                · show Act.put _ (some 57) _ = _
                                  simp only [Act.put, List.setIfInBounds_toArray, List.set_cons_zero, List.set_cons_succ, i64_w, i32_w]
                                  rfl
                                refine one_ (i := 2) (N := some 53) #[true, true, true, true, true, true, true, false, false] rfl rfl (one_of HT_.out (by kernel_rfl)) (by decide) (fun K hK => ?_)
                                refine Kd.N_append_rows_step k42 (w0 := w) w.heap.size (by rfl) (.tmp 51) (.tmp 52) 22 42 (.agg #[(.int .i64 0), (.string ⟨#[]⟩), (.string ⟨#[]⟩), (.slice none 0 0)]) 64 rfl Try.underlying22 info42 rfl (by decide) (by omega) v323 y322 l0 _ _ _ (fun k_ => (P0_ k_ ∨ w.heap.size ≤ k_) ∧ some k_ ≠ (u7 : Value).ownBlock ∧ some k_ ≠ (v320 : Value).ownBlock ∧ some k_ ≠ (v330 : Value).ownBlock) (fun k_ => ((fun k_ => (P0_ k_ ∨ w.heap.size ≤ k_) ∧ some k_ ≠ (u7 : Value).ownBlock ∧ some k_ ≠ (v320 : Value).ownBlock ∧ some k_ ≠ (v330 : Value).ownBlock)) k_ ∧ some k_ ≠ (v323 : Value).ownBlock) rfl rfl ?aO ?aR (fun _ hk => hk) ?aF ?aB ?aS ?aL ?_
                                (case aR => exact (by skip; exact Kd.V_F (Kd.V_mono (ok' := (fun k_ => ((fun k_ => (P0_ k_ ∨ w.heap.size ≤ k_) ∧ some k_ ≠ (u7 : Value).ownBlock ∧ some k_ ≠ (v320 : Value).ownBlock ∧ some k_ ≠ (v330 : Value).ownBlock)) k_ ∧ some k_ ≠ (v323 : Value).ownBlock)) (HO_0.out) (fun k_ hk => ⟨⟨hk.1.1.1.1, ⟨hk.1.1.1.2, ⟨hk.1.1.2, hk.2⟩⟩⟩, hk.1.2⟩))))
                                (case aB => exact (by repeat (first | (with_reducible first | exact HB.out | apply below_alloc | apply pw_below_drewN | apply below_drew1) | exact HB.out)))
                                (case aF => exact (fun k_ hk => ⟨(.inr (Nat.le_trans (below_size (by repeat (first | (with_reducible first | exact HB.out | apply below_alloc | apply pw_below_drewN | apply below_drew1) | exact HB.out))) hk)), Kd.fresh' (Kd.N_lt (by (with_reducible repeat (first | apply Kd.N_alloc | apply Kd.N_drewN | apply Kd.N_drew)); exact HO_7.out)) k_ hk, Kd.fresh' (Kd.R_lt (by (with_reducible repeat (first | apply Kd.R_alloc | apply Kd.R_drewN | apply Kd.R_drew)); exact HO321.out)) k_ hk, Kd.fresh' (Kd.N_lt (by (with_reducible repeat (first | apply Kd.N_alloc | apply Kd.N_drewN | apply Kd.N_drew)); exact HO331.out)) k_ hk⟩))
                                (case aO => exact (by (with_reducible repeat (first | apply Kd.N_alloc | apply Kd.N_drewN | apply Kd.N_drew)); exact Kd.N_mono HO324.out (fun _ hk => ⟨hk.1.1, ⟨hk.1.2.1, ⟨hk.1.2.2, hk.2⟩⟩⟩)))
                                (case aS => exact (below_size (by repeat (first | (with_reducible first | exact HB.out | apply below_alloc | apply pw_below_drewN | apply below_drew1) | exact HB.out))))
                                (case aL => have := LMc30.out; omega)
                                intro v326 w47 ho hb hg hat
                                have HS0_ := cell_grown hg (hHeld.1) (by have hk_ := Go.Proofs.YtnpipaehcklnbaaW.Fb.V_ok HO_0.out (by decide) (by have h_ : (0 : Int) < (l0.length : Int) := (by first | (exact of_decide_eq_true (by first | (with_reducible assumption) | assumption)) | omega); omega); first | exact hk_.2 | exact hk_.2.2 | exact hk_.2.1 | exact hk_.1.2 | exact hk_.2.2.1 | exact hk_.2.2.2 | exact hk_.1.2.2 | exact hk_.1.2.1 | exact hk_.2.1.2 | exact hk_.2.1.1)
                                have HS1_ := cell_grown hg (hHeld.2.1) (by have hk_ := Go.Proofs.YtnpipaehcklnbaaW.Fb.V_ok HO_0.out (by decide) (by have h_ : (0 : Int) < (l0.length : Int) := (by first | (exact of_decide_eq_true (by first | (with_reducible assumption) | assumption)) | omega); omega); first | exact hk_.2 | exact hk_.2.2 | exact hk_.2.1 | exact hk_.1.2 | exact hk_.2.2.1 | exact hk_.2.2.2 | exact hk_.1.2.2 | exact hk_.1.2.1 | exact hk_.2.1.2 | exact hk_.2.1.1)
                                have HS2_ := cell_grown hg (hHeld.2.2.1) (by have hk_ := Go.Proofs.YtnpipaehcklnbaaW.Fb.V_ok HO_0.out (by decide) (by have h_ : (0 : Int) < (l0.length : Int) := (by first | (exact of_decide_eq_true (by first | (with_reducible assumption) | assumption)) | omega); omega); first | exact hk_.2 | exact hk_.2.2 | exact hk_.2.1 | exact hk_.1.2 | exact hk_.2.2.1 | exact hk_.2.2.2 | exact hk_.1.2.2 | exact hk_.1.2.1 | exact hk_.2.1.2 | exact hk_.2.1.1)
                                have HS3_ := cell_grown hg (hHeld.2.2.2) (by have hk_ := Go.Proofs.YtnpipaehcklnbaaW.Fb.V_ok HO_0.out (by decide) (by have h_ : (0 : Int) < (l0.length : Int) := (by first | (exact of_decide_eq_true (by first | (with_reducible assumption) | assumption)) | omega); omega); first | exact hk_.2 | exact hk_.2.2 | exact hk_.2.1 | exact hk_.1.2 | exact hk_.2.2.1 | exact hk_.2.2.2 | exact hk_.1.2.2 | exact hk_.1.2.1 | exact hk_.2.1.2 | exact hk_.2.1.1)
                                rw [← Ny325.out] at ho
                                have n0_ := Aside0.mk (Kd.V_afterv (ok := (fun k_ => (P0_ k_ ∨ w.heap.size ≤ k_) ∧ some k_ ≠ (u7 : Value).ownBlock ∧ some k_ ≠ (v320 : Value).ownBlock ∧ some k_ ≠ (v330 : Value).ownBlock)) (by (with_reducible repeat (first | apply Kd.V_alloc | apply Kd.V_drewN | apply Kd.V_drew)); exact Kd.V_mono HO_0.out (fun _ hk => ⟨⟨hk.1.1.1.1, ⟨hk.1.1.1.2, ⟨hk.1.1.2, hk.2⟩⟩⟩, hk.1.2⟩)) hg hat)
                                have n1_ := Aside0.mk (Kd.N_afterv (ok := (fun k_ => (P0_ k_ ∨ w.heap.size ≤ k_) ∧ some k_ ≠ (v320 : Value).ownBlock ∧ some k_ ≠ (v330 : Value).ownBlock)) (by (with_reducible repeat (first | apply Kd.N_alloc | apply Kd.N_drewN | apply Kd.N_drew)); exact Kd.N_mono HO_7.out (fun _ hk => ⟨⟨hk.1.1.1, ⟨hk.1.1.2, hk.2⟩⟩, hk.1.2⟩)) hg hat)
                                have n2_ := Aside0.mk (Kd.R_over' (by (with_reducible repeat (first | apply Kd.R_alloc | apply Kd.R_drewN | apply Kd.R_drew)); exact HO321.out) (Kd.N_typed (by (with_reducible repeat (first | apply Kd.N_alloc | apply Kd.N_drewN | apply Kd.N_drew)); exact HO324.out)) (by decide) hg)
                                have n3_ := Aside0.mk (Kd.V_afterv (ok := (fun k_ => (P0_ k_ ∨ w.heap.size ≤ k_) ∧ some k_ ≠ (u7 : Value).ownBlock ∧ some k_ ≠ (v320 : Value).ownBlock ∧ some k_ ≠ (v330 : Value).ownBlock)) (by (with_reducible repeat (first | apply Kd.V_alloc | apply Kd.V_drewN | apply Kd.V_drew)); exact Kd.V_mono HL328_3.out (fun _ hk => ⟨⟨hk.1.1.1.1, ⟨hk.1.1.1.2, ⟨hk.1.1.2, hk.2⟩⟩⟩, hk.1.2⟩)) hg hat)
                                have n4_ := Aside0.mk (Kd.N_afterv (ok := (fun k_ => (P0_ k_ ∨ w.heap.size ≤ k_) ∧ some k_ ≠ (u7 : Value).ownBlock ∧ some k_ ≠ (v320 : Value).ownBlock)) (by (with_reducible repeat (first | apply Kd.N_alloc | apply Kd.N_drewN | apply Kd.N_drew)); exact Kd.N_mono HO331.out (fun _ hk => ⟨⟨hk.1, ⟨hk.2.1, hk.2.2.1⟩⟩, hk.2.2.2⟩)) hg hat)
                                have n5_ := Aside0.mk (hb)
                                have n6_ := Aside0.mk (ho)
                                clear HO_0
                                clear HO_7
                                clear HO321
                                clear HL328_3
                                clear HO331
                                clear HB
                                clear HO324
                                have HO_0 := n0_
                                have HO_7 := n1_
                                have HO321 := n2_
                                have HL328_3 := n3_
                                have HO331 := n4_
                                have HB := n5_
                                have HO327 := n6_
                                clear n0_ n1_ n2_ n3_ n4_ n5_ n6_
                                clear ho hb hg hat
                                refine hK.out _ _ ⟨HS0_, HS1_, HS2_, HS3_⟩ (fun hHeld => ?_)
                                clear hK K
                                refine norm_ (a' := ?_) ?_ ?_
                                rotate_left
                                · show Act.put _ (some 53) _ = _
                                  simp only [Act.put, List.setIfInBounds_toArray, List.set_cons_zero, List.set_cons_succ, i64_w, i32_w]
                                  rfl
                                exact norm_ (by simp only [putAll, Act.put, List.setIfInBounds_toArray, List.set_cons_zero, List.set_cons_succ]) (hCont (v323, v326, v330) _ ⟨hHeld, (by (with_reducible repeat (first | apply Kd.V_alloc | apply Kd.V_drewN | apply Kd.V_drew)); exact Kd.V_mono HL328_3.out (fun _ hk => ⟨hk.1.1, ⟨hk.1.2.2.1, ⟨hk.2, ⟨hk.1.2.2.2, hk.1.2.1⟩⟩⟩⟩)), (by (with_reducible repeat (first | apply Kd.R_alloc | apply Kd.R_drewN | apply Kd.R_drew)); exact Kd.R_mono HO321.out (fun _ hk => hk.1)), (by (with_reducible repeat (first | apply Kd.N_alloc | apply Kd.N_drewN | apply Kd.N_drew)); exact Kd.N_mono HO327.out (fun _ hk => ⟨hk.1, ⟨hk.2.2.1, ⟨hk.2.2.2, hk.2.1⟩⟩⟩)), (by (with_reducible repeat (first | apply Kd.N_alloc | apply Kd.N_drewN | apply Kd.N_drew)); exact Kd.N_mono HO331.out (fun _ hk => ⟨hk.1.1, ⟨hk.1.2.2, ⟨hk.2, hk.1.2.1⟩⟩⟩)), (by (with_reducible repeat (first | apply Kd.V_alloc | apply Kd.V_drewN | apply Kd.V_drew)); exact Kd.V_mono HO_0.out (fun _ hk => ⟨hk.1.1, ⟨hk.1.2.2.1, ⟨hk.2, ⟨hk.1.2.2.2, hk.1.2.1⟩⟩⟩⟩)), (by (with_reducible repeat (first | apply Kd.N_alloc | apply Kd.N_drewN | apply Kd.N_drew)); exact Kd.N_mono HO_7.out (fun _ hk => ⟨hk.1.1, ⟨hk.1.2.1, ⟨hk.2, hk.1.2.2⟩⟩⟩)), (by repeat (first | (with_reducible first | exact HB.out | apply below_alloc | apply pw_below_drewN | apply below_drew1) | exact HB.out))⟩)
                            · skip
                              refine Kd.N_lit_step k42 _ 42 ?hg (N' := 57) ?hd (xs := ([(⟨(rd_T42 l0 0).f0, (rd_T42 l0 0).f1, (rd_T42 l0 0).f2, (rd_T42 l0 0).f3⟩ : S42)] : List (S42))) (inner := [.int .i64 ((rd_T42 l0 0).f0), .string ((rd_T42 l0 0).f1), .string ((rd_T42 l0 0).f2), .slice A328_3 ((rd_T42 l0 0).f3).length c328_3]) (ok := (fun k_ => (P0_ k_ ∨ w.heap.size ≤ k_) ∧ some k_ ≠ (u7 : Value).ownBlock ∧ some k_ ≠ (v320 : Value).ownBlock)) (okp := (fun k_ => (P0_ k_ ∨ w.heap.size ≤ k_) ∧ some k_ ≠ (u7 : Value).ownBlock ∧ some k_ ≠ (v320 : Value).ownBlock)) ?hr ?hp (fun _ hk => hk) ((show ∀ k_, w42.heap.size ≤ k_ → (fun k_ => (P0_ k_ ∨ w.heap.size ≤ k_) ∧ some k_ ≠ (u7 : Value).ownBlock ∧ some k_ ≠ (v320 : Value).ownBlock) k_ from fun k_ hk => ⟨(.inr (Nat.le_trans (below_size (by repeat (first | (with_reducible first | exact HB.out | apply below_alloc | apply pw_below_drewN | apply below_drew1) | exact HB.out))) hk)), Kd.fresh' (Kd.N_lt (by (with_reducible repeat (first | apply Kd.N_alloc | apply Kd.N_drewN | apply Kd.N_drew)); exact HO_7.out)) k_ hk, Kd.fresh' (Kd.R_lt (by (with_reducible repeat (first | apply Kd.R_alloc | apply Kd.R_drewN | apply Kd.R_drew)); exact HO321.out)) k_ hk⟩) _ (Nat.le_refl _)) (Below.refl _ _) (Nat.le_refl _) (by simp) ?_; (case hd => rfl); (case hg => rfl); (case hr => first | (go_simp; done) | (go_simp; rfl)); (case hp => exact (Reps.c4 (show Kd.FK k42 _ _ (⟨(rd_T42 l0 0).f0, (rd_T42 l0 0).f1, (rd_T42 l0 0).f2, (rd_T42 l0 0).f3⟩ : S42) [.int .i64 ((rd_T42 l0 0).f0), .string ((rd_T42 l0 0).f1), .string ((rd_T42 l0 0).f2), .slice A328_3 ((rd_T42 l0 0).f3).length c328_3] from (k42_mkF _ _ (⟨(rd_T42 l0 0).f0, (rd_T42 l0 0).f1, (rd_T42 l0 0).f2, (rd_T42 l0 0).f3⟩ : S42) (Kd.V_reads' (Kd.V_mono (ok' := (fun k_ => (P0_ k_ ∨ w.heap.size ≤ k_) ∧ some k_ ≠ (u7 : Value).ownBlock ∧ some k_ ≠ (v320 : Value).ownBlock)) (HL328_3.out) (fun k_ hk => ⟨hk.1.1, ⟨hk.1.2, hk.2⟩⟩))).2.1 (Kd.V_F (Kd.V_mono (ok' := (fun k_ => (P0_ k_ ∨ w.heap.size ≤ k_) ∧ some k_ ≠ (u7 : Value).ownBlock ∧ some k_ ≠ (v320 : Value).ownBlock)) (HL328_3.out) (fun k_ hk => ⟨hk.1.1, ⟨hk.1.2, hk.2⟩⟩))))) (Reps.none _ _)))
                              intro v330 w43 ho44 hb hg_ hnew_
                              have HS0_ := (hb.cell (World.block_lt_of_cell? _ _ (hHeld.1))).trans (hHeld.1)
                              have HS1_ := (hb.cell (World.block_lt_of_cell? _ _ (hHeld.2.1))).trans (hHeld.2.1)
                              have HS2_ := (hb.cell (World.block_lt_of_cell? _ _ (hHeld.2.2.1))).trans (hHeld.2.2.1)
                              have HS3_ := (hb.cell (World.block_lt_of_cell? _ _ (hHeld.2.2.2))).trans (hHeld.2.2.2)
                              clear hg_ hnew_
                              (first | rw [← Ny329.out] at ho44 | (simp only [Int.reduceToNat] at ho44; rw [← Ny329.out] at ho44))
                              have n0_ := Aside0.mk (Kd.V_elder' (by (with_reducible repeat (first | apply Kd.V_alloc | apply Kd.V_drewN | apply Kd.V_drew)); exact HO_0.out) (Kd.N_base ho44) hb)
                              have n1_ := Aside0.mk (Kd.N_elder' (by (with_reducible repeat (first | apply Kd.N_alloc | apply Kd.N_drewN | apply Kd.N_drew)); exact HO_7.out) (Kd.N_base ho44) hb)
                              have n2_ := Aside0.mk (Kd.R_below (by (with_reducible repeat (first | apply Kd.R_alloc | apply Kd.R_drewN | apply Kd.R_drew)); exact HO321.out) hb)
                              have n3_ := Aside0.mk (Kd.V_elder' (by (with_reducible repeat (first | apply Kd.V_alloc | apply Kd.V_drewN | apply Kd.V_drew)); exact HL328_3.out) (Kd.N_base ho44) hb)
                              have n4_ := Aside0.mk (Kd.N_lower ho44 (below_size (by repeat (first | (with_reducible first | exact HB.out | apply below_alloc | apply pw_below_drewN | apply below_drew1) | exact HB.out))))
                              have n5_ := Aside0.mk (Kd.C_below (by repeat (first | (with_reducible exact HR328_3.out) | (with_reducible refine Kd.C_alloc ?_ _) | (with_reducible refine Kd.C_drewN ?_ _) | (with_reducible refine Kd.C_drew ?_) | exact HR328_3.out)) hb)
                              have n6_ := Aside0.mk (below_step (by repeat (first | (with_reducible first | exact HB.out | apply below_alloc | apply pw_below_drewN | apply below_drew1) | exact HB.out)) hb)
                              clear HO_0
                              clear HO_7
                              clear HO321
                              clear HL328_3
                              clear HR328_3
                              clear HB
                              have HO_0 := n0_
                              have HO_7 := n1_
                              have HO321 := n2_
                              have HL328_3 := n3_
                              have HO331 := n4_
                              have HR328_3 := n5_
                              have HB := n6_
                              clear n0_ n1_ n2_ n3_ n4_ n5_ n6_
                              clear hb ho44
                              refine hK.out _ _ ⟨HS0_, HS1_, HS2_, HS3_⟩ (fun hHeld => ?_)
                              clear hK K
                              refine norm_ (a' := ?_) ?_ ?_
                              rotate_left
                              · show Act.put _ (some 57) _ = _
                                simp only [Act.put, List.setIfInBounds_toArray, List.set_cons_zero, List.set_cons_succ, i64_w, i32_w]
                                rfl
                              refine one_ (i := 0) (N := some 51) #[true, true, false, true, true, true, true, false, false] rfl rfl (one_of HT_.out (by kernel_rfl)) (by decide) (fun K hK => ?_)
                              refine Kd.N_lit_step k42 _ 42 ?hg (N' := 51) ?hd (xs := ([] : List (S42))) (inner := []) (ok := (fun k_ => (P0_ k_ ∨ w.heap.size ≤ k_) ∧ some k_ ≠ (u7 : Value).ownBlock ∧ some k_ ≠ (v320 : Value).ownBlock ∧ some k_ ≠ (v330 : Value).ownBlock)) (okp := (fun k_ => (P0_ k_ ∨ w.heap.size ≤ k_) ∧ some k_ ≠ (u7 : Value).ownBlock ∧ some k_ ≠ (v320 : Value).ownBlock ∧ some k_ ≠ (v330 : Value).ownBlock)) ?hr ?hp (fun _ hk => hk) ((show ∀ k_, w43.heap.size ≤ k_ → (fun k_ => (P0_ k_ ∨ w.heap.size ≤ k_) ∧ some k_ ≠ (u7 : Value).ownBlock ∧ some k_ ≠ (v320 : Value).ownBlock ∧ some k_ ≠ (v330 : Value).ownBlock) k_ from fun k_ hk => ⟨(.inr (Nat.le_trans (below_size (by repeat (first | (with_reducible first | exact HB.out | apply below_alloc | apply pw_below_drewN | apply below_drew1) | exact HB.out))) hk)), Kd.fresh' (Kd.N_lt (by (with_reducible repeat (first | apply Kd.N_alloc | apply Kd.N_drewN | apply Kd.N_drew)); exact HO_7.out)) k_ hk, Kd.fresh' (Kd.R_lt (by (with_reducible repeat (first | apply Kd.R_alloc | apply Kd.R_drewN | apply Kd.R_drew)); exact HO321.out)) k_ hk, Kd.fresh' (Kd.N_lt (by (with_reducible repeat (first | apply Kd.N_alloc | apply Kd.N_drewN | apply Kd.N_drew)); exact HO331.out)) k_ hk⟩) _ (Nat.le_refl _)) (Below.refl _ _) (Nat.le_refl _) (by simp) ?_; (case hd => rfl); (case hg => rfl); (case hr => first | (go_simp; done) | (go_simp; rfl)); (case hp => exact (Reps.none _ _))
                              intro v323 w45 ho46 hb hg_ hnew_
                              have HS0_ := (hb.cell (World.block_lt_of_cell? _ _ (hHeld.1))).trans (hHeld.1)
                              have HS1_ := (hb.cell (World.block_lt_of_cell? _ _ (hHeld.2.1))).trans (hHeld.2.1)
                              have HS2_ := (hb.cell (World.block_lt_of_cell? _ _ (hHeld.2.2.1))).trans (hHeld.2.2.1)
                              have HS3_ := (hb.cell (World.block_lt_of_cell? _ _ (hHeld.2.2.2))).trans (hHeld.2.2.2)
                              clear hg_ hnew_
                              (first | rw [← Ny322.out] at ho46 | (simp only [Int.reduceToNat] at ho46; rw [← Ny322.out] at ho46))
                              have n0_ := Aside0.mk (Kd.V_elder' (by (with_reducible repeat (first | apply Kd.V_alloc | apply Kd.V_drewN | apply Kd.V_drew)); exact HO_0.out) (Kd.N_base ho46) hb)
                              have n1_ := Aside0.mk (Kd.N_elder' (by (with_reducible repeat (first | apply Kd.N_alloc | apply Kd.N_drewN | apply Kd.N_drew)); exact HO_7.out) (Kd.N_base ho46) hb)
                              have n2_ := Aside0.mk (Kd.R_below (by (with_reducible repeat (first | apply Kd.R_alloc | apply Kd.R_drewN | apply Kd.R_drew)); exact HO321.out) hb)
                              have n3_ := Aside0.mk (Kd.V_elder' (by (with_reducible repeat (first | apply Kd.V_alloc | apply Kd.V_drewN | apply Kd.V_drew)); exact HL328_3.out) (Kd.N_base ho46) hb)
                              have n4_ := Aside0.mk (Kd.N_elder' (by (with_reducible repeat (first | apply Kd.N_alloc | apply Kd.N_drewN | apply Kd.N_drew)); exact HO331.out) (Kd.N_base ho46) hb)
                              have n5_ := Aside0.mk (Kd.N_lower ho46 (below_size (by repeat (first | (with_reducible first | exact HB.out | apply below_alloc | apply pw_below_drewN | apply below_drew1) | exact HB.out))))
                              have n6_ := Aside0.mk (Kd.C_below (by repeat (first | (with_reducible exact HR328_3.out) | (with_reducible refine Kd.C_alloc ?_ _) | (with_reducible refine Kd.C_drewN ?_ _) | (with_reducible refine Kd.C_drew ?_) | exact HR328_3.out)) hb)
                              have n7_ := Aside0.mk (below_step (by repeat (first | (with_reducible first | exact HB.out | apply below_alloc | apply pw_below_drewN | apply below_drew1) | exact HB.out)) hb)
                              clear HO_0
                              clear HO_7
                              clear HO321
                              clear HL328_3
                              clear HO331
                              clear HR328_3
                              clear HB
                              have HO_0 := n0_
                              have HO_7 := n1_
                              have HO321 := n2_
                              have HL328_3 := n3_
                              have HO331 := n4_
                              have HO324 := n5_
                              have HR328_3 := n6_
                              have HB := n7_
                              clear n0_ n1_ n2_ n3_ n4_ n5_ n6_ n7_
                              clear hb ho46
                              refine hK.out _ _ ⟨HS0_, HS1_, HS2_, HS3_⟩ (fun hHeld => ?_)
                              clear hK K
                              refine norm_ (a' := ?_) ?_ ?_
                              rotate_left
                              · show Act.put _ (some 51) _ = _
                                simp only [Act.put, List.setIfInBounds_toArray, List.set_cons_zero, List.set_cons_succ, i64_w, i32_w]
                                rfl
                              refine one_ (i := 2) (N := some 53) #[true, true, true, true, true, true, true, false, false] rfl rfl (one_of HT_.out (by kernel_rfl)) (by decide) (fun K hK => ?_)
                              refine Kd.N_append_rows_step k42 (w0 := w) w.heap.size (by rfl) (.tmp 51) (.tmp 52) 22 42 (.agg #[(.int .i64 0), (.string ⟨#[]⟩), (.string ⟨#[]⟩), (.slice none 0 0)]) 64 rfl Try.underlying22 info42 rfl (by decide) (by omega) v323 y322 l0 _ _ _ (fun k_ => (P0_ k_ ∨ w.heap.size ≤ k_) ∧ some k_ ≠ (u7 : Value).ownBlock ∧ some k_ ≠ (v320 : Value).ownBlock ∧ some k_ ≠ (v330 : Value).ownBlock) (fun k_ => ((fun k_ => (P0_ k_ ∨ w.heap.size ≤ k_) ∧ some k_ ≠ (u7 : Value).ownBlock ∧ some k_ ≠ (v320 : Value).ownBlock ∧ some k_ ≠ (v330 : Value).ownBlock)) k_ ∧ some k_ ≠ (v323 : Value).ownBlock) rfl rfl ?aO ?aR (fun _ hk => hk) ?aF ?aB ?aS ?aL ?_
                              (case aR => exact (by skip; exact Kd.V_F (Kd.V_mono (ok' := (fun k_ => ((fun k_ => (P0_ k_ ∨ w.heap.size ≤ k_) ∧ some k_ ≠ (u7 : Value).ownBlock ∧ some k_ ≠ (v320 : Value).ownBlock ∧ some k_ ≠ (v330 : Value).ownBlock)) k_ ∧ some k_ ≠ (v323 : Value).ownBlock)) (HO_0.out) (fun k_ hk => ⟨⟨hk.1.1.1.1, ⟨hk.1.1.1.2, ⟨hk.1.1.2, hk.1.2⟩⟩⟩, hk.2⟩))))
                              (case aB => exact (by repeat (first | (with_reducible first | exact HB.out | apply below_alloc | apply pw_below_drewN | apply below_drew1) | exact HB.out)))
                              (case aF => exact (fun k_ hk => ⟨(.inr (Nat.le_trans (below_size (by repeat (first | (with_reducible first | exact HB.out | apply below_alloc | apply pw_below_drewN | apply below_drew1) | exact HB.out))) hk)), Kd.fresh' (Kd.N_lt (by (with_reducible repeat (first | apply Kd.N_alloc | apply Kd.N_drewN | apply Kd.N_drew)); exact HO_7.out)) k_ hk, Kd.fresh' (Kd.R_lt (by (with_reducible repeat (first | apply Kd.R_alloc | apply Kd.R_drewN | apply Kd.R_drew)); exact HO321.out)) k_ hk, Kd.fresh' (Kd.N_lt (by (with_reducible repeat (first | apply Kd.N_alloc | apply Kd.N_drewN | apply Kd.N_drew)); exact HO331.out)) k_ hk⟩))
                              (case aO => exact (by (with_reducible repeat (first | apply Kd.N_alloc | apply Kd.N_drewN | apply Kd.N_drew)); exact HO324.out))
                              (case aS => exact (below_size (by repeat (first | (with_reducible first | exact HB.out | apply below_alloc | apply pw_below_drewN | apply below_drew1) | exact HB.out))))
                              (case aL => have := LMc30.out; omega)
                              intro v326 w47 ho hb hg hat
                              have HS0_ := cell_grown hg (hHeld.1) (by have hk_ := Go.Proofs.YtnpipaehcklnbaaW.Fb.V_ok HO_0.out (by decide) (by have h_ : (0 : Int) < (l0.length : Int) := (by first | (exact of_decide_eq_true (by first | (with_reducible assumption) | assumption)) | omega); omega); first | exact hk_.2 | exact hk_.2.2 | exact hk_.2.1 | exact hk_.1.2 | exact hk_.2.2.1 | exact hk_.2.2.2 | exact hk_.1.2.2 | exact hk_.1.2.1 | exact hk_.2.1.2 | exact hk_.2.1.1)
                              have HS1_ := cell_grown hg (hHeld.2.1) (by have hk_ := Go.Proofs.YtnpipaehcklnbaaW.Fb.V_ok HO_0.out (by decide) (by have h_ : (0 : Int) < (l0.length : Int) := (by first | (exact of_decide_eq_true (by first | (with_reducible assumption) | assumption)) | omega); omega); first | exact hk_.2 | exact hk_.2.2 | exact hk_.2.1 | exact hk_.1.2 | exact hk_.2.2.1 | exact hk_.2.2.2 | exact hk_.1.2.2 | exact hk_.1.2.1 | exact hk_.2.1.2 | exact hk_.2.1.1)
                              have HS2_ := cell_grown hg (hHeld.2.2.1) (by have hk_ := Go.Proofs.YtnpipaehcklnbaaW.Fb.V_ok HO_0.out (by decide) (by have h_ : (0 : Int) < (l0.length : Int) := (by first | (exact of_decide_eq_true (by first | (with_reducible assumption) | assumption)) | omega); omega); first | exact hk_.2 | exact hk_.2.2 | exact hk_.2.1 | exact hk_.1.2 | exact hk_.2.2.1 | exact hk_.2.2.2 | exact hk_.1.2.2 | exact hk_.1.2.1 | exact hk_.2.1.2 | exact hk_.2.1.1)
                              have HS3_ := cell_grown hg (hHeld.2.2.2) (by have hk_ := Go.Proofs.YtnpipaehcklnbaaW.Fb.V_ok HO_0.out (by decide) (by have h_ : (0 : Int) < (l0.length : Int) := (by first | (exact of_decide_eq_true (by first | (with_reducible assumption) | assumption)) | omega); omega); first | exact hk_.2 | exact hk_.2.2 | exact hk_.2.1 | exact hk_.1.2 | exact hk_.2.2.1 | exact hk_.2.2.2 | exact hk_.1.2.2 | exact hk_.1.2.1 | exact hk_.2.1.2 | exact hk_.2.1.1)
                              rw [← Ny325.out] at ho
                              have n0_ := Aside0.mk (Kd.V_afterv (ok := (fun k_ => (P0_ k_ ∨ w.heap.size ≤ k_) ∧ some k_ ≠ (u7 : Value).ownBlock ∧ some k_ ≠ (v320 : Value).ownBlock ∧ some k_ ≠ (v330 : Value).ownBlock)) (by (with_reducible repeat (first | apply Kd.V_alloc | apply Kd.V_drewN | apply Kd.V_drew)); exact Kd.V_mono HO_0.out (fun _ hk => ⟨⟨hk.1.1.1.1, ⟨hk.1.1.1.2, ⟨hk.1.1.2, hk.1.2⟩⟩⟩, hk.2⟩)) hg hat)
                              have n1_ := Aside0.mk (Kd.N_afterv (ok := (fun k_ => (P0_ k_ ∨ w.heap.size ≤ k_) ∧ some k_ ≠ (v320 : Value).ownBlock ∧ some k_ ≠ (v330 : Value).ownBlock)) (by (with_reducible repeat (first | apply Kd.N_alloc | apply Kd.N_drewN | apply Kd.N_drew)); exact Kd.N_mono HO_7.out (fun _ hk => ⟨⟨hk.1.1.1, ⟨hk.1.1.2, hk.1.2⟩⟩, hk.2⟩)) hg hat)
                              have n2_ := Aside0.mk (Kd.R_over' (by (with_reducible repeat (first | apply Kd.R_alloc | apply Kd.R_drewN | apply Kd.R_drew)); exact HO321.out) (Kd.N_typed (by (with_reducible repeat (first | apply Kd.N_alloc | apply Kd.N_drewN | apply Kd.N_drew)); exact HO324.out)) (by decide) hg)
                              have n3_ := Aside0.mk (Kd.V_afterv (ok := (fun k_ => (P0_ k_ ∨ w.heap.size ≤ k_) ∧ some k_ ≠ (u7 : Value).ownBlock ∧ some k_ ≠ (v320 : Value).ownBlock ∧ some k_ ≠ (v330 : Value).ownBlock)) (by (with_reducible repeat (first | apply Kd.V_alloc | apply Kd.V_drewN | apply Kd.V_drew)); exact Kd.V_mono HL328_3.out (fun _ hk => ⟨⟨hk.1.1.1.1, ⟨hk.1.1.1.2, ⟨hk.1.1.2, hk.1.2⟩⟩⟩, hk.2⟩)) hg hat)
                              have n4_ := Aside0.mk (Kd.N_afterv (ok := (fun k_ => (P0_ k_ ∨ w.heap.size ≤ k_) ∧ some k_ ≠ (u7 : Value).ownBlock ∧ some k_ ≠ (v320 : Value).ownBlock)) (by (with_reducible repeat (first | apply Kd.N_alloc | apply Kd.N_drewN | apply Kd.N_drew)); exact HO331.out) hg hat)
                              have n5_ := Aside0.mk (hb)
                              have n6_ := Aside0.mk (ho)
                              clear HO_0
                              clear HO_7
                              clear HO321
                              clear HL328_3
                              clear HO331
                              clear HB
                              clear HO324
                              have HO_0 := n0_
                              have HO_7 := n1_
                              have HO321 := n2_
                              have HL328_3 := n3_
                              have HO331 := n4_
                              have HB := n5_
                              have HO327 := n6_
                              clear n0_ n1_ n2_ n3_ n4_ n5_ n6_
                              clear ho hb hg hat
                              refine hK.out _ _ ⟨HS0_, HS1_, HS2_, HS3_⟩ (fun hHeld => ?_)
                              clear hK K
                              refine norm_ (a' := ?_) ?_ ?_
                              rotate_left
                              · show Act.put _ (some 53) _ = _
                                simp only [Act.put, List.setIfInBounds_toArray, List.set_cons_zero, List.set_cons_succ, i64_w, i32_w]
                                rfl
                              exact norm_ (by simp only [putAll, Act.put, List.setIfInBounds_toArray, List.set_cons_zero, List.set_cons_succ]) (hCont (v323, v326, v330) _ ⟨hHeld, (by (with_reducible repeat (first | apply Kd.V_alloc | apply Kd.V_drewN | apply Kd.V_drew)); exact Kd.V_mono HL328_3.out (fun _ hk => ⟨hk.1.1, ⟨hk.1.2.2.1, ⟨hk.2, ⟨hk.1.2.2.2, hk.1.2.1⟩⟩⟩⟩)), (by (with_reducible repeat (first | apply Kd.R_alloc | apply Kd.R_drewN | apply Kd.R_drew)); exact Kd.R_mono HO321.out (fun _ hk => hk.1)), (by (with_reducible repeat (first | apply Kd.N_alloc | apply Kd.N_drewN | apply Kd.N_drew)); exact Kd.N_mono HO327.out (fun _ hk => ⟨hk.1, ⟨hk.2.2.1, ⟨hk.2.2.2, hk.2.1⟩⟩⟩)), (by (with_reducible repeat (first | apply Kd.N_alloc | apply Kd.N_drewN | apply Kd.N_drew)); exact Kd.N_mono HO331.out (fun _ hk => ⟨hk.1.1, ⟨hk.1.2.2, ⟨hk.2, hk.1.2.1⟩⟩⟩)), (by (with_reducible repeat (first | apply Kd.V_alloc | apply Kd.V_drewN | apply Kd.V_drew)); exact Kd.V_mono HO_0.out (fun _ hk => ⟨hk.1.1, ⟨hk.1.2.2.1, ⟨hk.2, ⟨hk.1.2.2.2, hk.1.2.1⟩⟩⟩⟩)), (by (with_reducible repeat (first | apply Kd.N_alloc | apply Kd.N_drewN | apply Kd.N_drew)); exact Kd.N_mono HO_7.out (fun _ hk => ⟨hk.1.1, ⟨hk.1.2.1, ⟨hk.2, hk.1.2.2⟩⟩⟩)), (by repeat (first | (with_reducible first | exact HB.out | apply below_alloc | apply pw_below_drewN | apply below_drew1) | exact HB.out))⟩)
                          rintro ⟨v323, v326, v330⟩ w48 ⟨hS_, h0_, h1_, h2_, h3_, h4_, h5_, h6_⟩
                          have n0_ : Aside0 (Kd.V Kd.string 9 w48 w.heap.size (fun k_ => (P0_ k_ ∨ w.heap.size ≤ k_) ∧ some k_ ≠ (v320 : Value).ownBlock ∧ some k_ ≠ (v326 : Value).ownBlock ∧ some k_ ≠ (v330 : Value).ownBlock ∧ some k_ ≠ (u7 : Value).ownBlock) (.slice A328_3 ((rd_T42 l0 0).f3).length c328_3) ((rd_T42 l0 0).f3)) := ⟨h0_⟩
                          have n1_ : Aside0 (Kd.R Kd.string 9 w48 w.heap.size (fun k_ => (w.heap.size ≤ k_)) v320 t319) := ⟨h1_⟩
                          have n2_ : Aside0 (Kd.N k42 42 w48 w.heap.size (fun k_ => (P0_ k_ ∨ w.heap.size ≤ k_) ∧ some k_ ≠ (v320 : Value).ownBlock ∧ some k_ ≠ (v330 : Value).ownBlock ∧ some k_ ≠ (u7 : Value).ownBlock) v326 y325) := ⟨h2_⟩
                          have n3_ : Aside0 (Kd.N k42 42 w48 w.heap.size (fun k_ => (P0_ k_ ∨ w.heap.size ≤ k_) ∧ some k_ ≠ (v320 : Value).ownBlock ∧ some k_ ≠ (v326 : Value).ownBlock ∧ some k_ ≠ (u7 : Value).ownBlock) v330 y329) := ⟨h3_⟩
                          have n4_ : Aside0 (Kd.V k42 42 w48 w.heap.size (fun k_ => (P0_ k_ ∨ w.heap.size ≤ k_) ∧ some k_ ≠ (v320 : Value).ownBlock ∧ some k_ ≠ (v326 : Value).ownBlock ∧ some k_ ≠ (v330 : Value).ownBlock ∧ some k_ ≠ (u7 : Value).ownBlock) (.slice (some ad328) l0.length c0) l0) := ⟨h4_⟩
                          have n5_ : Aside0 (Kd.N k42 42 w48 w.heap.size (fun k_ => (P0_ k_ ∨ w.heap.size ≤ k_) ∧ some k_ ≠ (v320 : Value).ownBlock ∧ some k_ ≠ (v326 : Value).ownBlock ∧ some k_ ≠ (v330 : Value).ownBlock) u7 x7_2) := ⟨h5_⟩
                          have n6_ : Aside0 (Below w.heap.size w w48) := ⟨h6_⟩
                          clear HO_0
                          clear HO_7
                          clear HO321
                          clear HB
                          clear h0_ h1_ h2_ h3_ h4_ h5_ h6_
                          have HL328_3 := n0_
                          have HO321 := n1_
                          have HO327 := n2_
                          have HO331 := n3_
                          have HO_0 := n4_
                          have HO_7 := n5_
                          have HB := n6_
                          clear n0_ n1_ n2_ n3_ n4_ n5_ n6_
                          have hHeld : w48.cell? ad328 = some (.int .i64 ((rd_T42 l0 0).f0)) ∧ w48.cell? ⟨ad328.block, ad328.off + 1, none⟩ = some (.string ((rd_T42 l0 0).f1)) ∧ w48.cell? ⟨ad328.block, ad328.off + 2, none⟩ = some (.string ((rd_T42 l0 0).f2)) ∧ w48.cell? ⟨ad328.block, ad328.off + 3, none⟩ = some (.slice A328_3 ((rd_T42 l0 0).f3).length c328_3) := hS_
                          obtain ⟨Ao50, co50, eo50⟩ := Kd.N_slice HO331.out
                          (first | subst eo50 | (injection eo50 with f1_ f2_ f3_; have f4_ := f1_.symm; have f5_ := f3_.symm; clear f1_ f2_ f3_; subst f4_; subst f5_))
                          refine norm_ (a' := ?_) ?_ ?_
                          rotate_left
                          · simp only [putAll, Act.put, List.setIfInBounds_toArray, List.set_cons_zero, List.set_cons_succ]
                            rfl
                          refine one_ (i := 7) (N := some 58) #[true, true, true, true, true, true, true, true, false] rfl rfl (one_of HT_.out (by kernel_rfl)) (by decide) (fun K hK => ?_)
                          refine Kd.N_append_rows_step k42 (w0 := w) w.heap.size (by rfl) (.tmp 53) (.tmp 57) 22 42 (.agg #[(.int .i64 0), (.string ⟨#[]⟩), (.string ⟨#[]⟩), (.slice none 0 0)]) 64 rfl Try.underlying22 info42 rfl (by decide) (by omega) v326 y325 y329 _ _ _ (fun k_ => (P0_ k_ ∨ w.heap.size ≤ k_) ∧ some k_ ≠ (u7 : Value).ownBlock ∧ some k_ ≠ (v320 : Value).ownBlock) (fun k_ => ((fun k_ => (P0_ k_ ∨ w.heap.size ≤ k_) ∧ some k_ ≠ (u7 : Value).ownBlock ∧ some k_ ≠ (v320 : Value).ownBlock)) k_ ∧ some k_ ≠ (v326 : Value).ownBlock) rfl rfl ?aO ?aR (fun _ hk => hk) ?aF ?aB ?aS ?aL ?_
                          (case aR => exact (by skip; exact Kd.N_F (Kd.N_mono (ok' := (fun k_ => ((fun k_ => (P0_ k_ ∨ w.heap.size ≤ k_) ∧ some k_ ≠ (u7 : Value).ownBlock ∧ some k_ ≠ (v320 : Value).ownBlock)) k_ ∧ some k_ ≠ (v326 : Value).ownBlock)) (HO331.out) (fun k_ hk => ⟨⟨hk.1, ⟨hk.2.2.2, hk.2.1⟩⟩, hk.2.2.1⟩))))
                          (case aB => exact (by repeat (first | (with_reducible first | exact HB.out | apply below_alloc | apply pw_below_drewN | apply below_drew1) | exact HB.out)))
                          (case aF => exact (fun k_ hk => ⟨(.inr (Nat.le_trans (below_size (by repeat (first | (with_reducible first | exact HB.out | apply below_alloc | apply pw_below_drewN | apply below_drew1) | exact HB.out))) hk)), Kd.fresh' (Kd.N_lt (by (with_reducible repeat (first | apply Kd.N_alloc | apply Kd.N_drewN | apply Kd.N_drew)); exact HO_7.out)) k_ hk, Kd.fresh' (Kd.R_lt (by (with_reducible repeat (first | apply Kd.R_alloc | apply Kd.R_drewN | apply Kd.R_drew)); exact HO321.out)) k_ hk⟩))
                          (case aO => exact (by (with_reducible repeat (first | apply Kd.N_alloc | apply Kd.N_drewN | apply Kd.N_drew)); exact Kd.N_mono HO327.out (fun _ hk => ⟨hk.1, ⟨hk.2.2.2, hk.2.1⟩⟩)))
                          (case aS => exact (below_size (by repeat (first | (with_reducible first | exact HB.out | apply below_alloc | apply pw_below_drewN | apply below_drew1) | exact HB.out))))
                          (case aL => have := LMc32.out; omega)
                          intro v333 w49 ho hb hg hat
                          have HS0_ := cell_grown hg (hHeld.1) (by have hk_ := Go.Proofs.YtnpipaehcklnbaaW.Fb.V_ok HO_0.out (by decide) (by have h_ : (0 : Int) < (l0.length : Int) := (by first | (exact of_decide_eq_true (by first | (with_reducible assumption) | assumption)) | omega); omega); first | exact hk_.2 | exact hk_.2.2 | exact hk_.2.1 | exact hk_.1.2 | exact hk_.2.2.1 | exact hk_.2.2.2 | exact hk_.1.2.2 | exact hk_.1.2.1 | exact hk_.2.1.2 | exact hk_.2.1.1)
                          have HS1_ := cell_grown hg (hHeld.2.1) (by have hk_ := Go.Proofs.YtnpipaehcklnbaaW.Fb.V_ok HO_0.out (by decide) (by have h_ : (0 : Int) < (l0.length : Int) := (by first | (exact of_decide_eq_true (by first | (with_reducible assumption) | assumption)) | omega); omega); first | exact hk_.2 | exact hk_.2.2 | exact hk_.2.1 | exact hk_.1.2 | exact hk_.2.2.1 | exact hk_.2.2.2 | exact hk_.1.2.2 | exact hk_.1.2.1 | exact hk_.2.1.2 | exact hk_.2.1.1)
                          have HS2_ := cell_grown hg (hHeld.2.2.1) (by have hk_ := Go.Proofs.YtnpipaehcklnbaaW.Fb.V_ok HO_0.out (by decide) (by have h_ : (0 : Int) < (l0.length : Int) := (by first | (exact of_decide_eq_true (by first | (with_reducible assumption) | assumption)) | omega); omega); first | exact hk_.2 | exact hk_.2.2 | exact hk_.2.1 | exact hk_.1.2 | exact hk_.2.2.1 | exact hk_.2.2.2 | exact hk_.1.2.2 | exact hk_.1.2.1 | exact hk_.2.1.2 | exact hk_.2.1.1)
                          have HS3_ := cell_grown hg (hHeld.2.2.2) (by have hk_ := Go.Proofs.YtnpipaehcklnbaaW.Fb.V_ok HO_0.out (by decide) (by have h_ : (0 : Int) < (l0.length : Int) := (by first | (exact of_decide_eq_true (by first | (with_reducible assumption) | assumption)) | omega); omega); first | exact hk_.2 | exact hk_.2.2 | exact hk_.2.1 | exact hk_.1.2 | exact hk_.2.2.1 | exact hk_.2.2.2 | exact hk_.1.2.2 | exact hk_.1.2.1 | exact hk_.2.1.2 | exact hk_.2.1.1)
                          rw [← Ny332.out] at ho
                          have n0_ := Aside0.mk (Kd.V_afterv (ok := (fun k_ => (P0_ k_ ∨ w.heap.size ≤ k_) ∧ some k_ ≠ (u7 : Value).ownBlock ∧ some k_ ≠ (v320 : Value).ownBlock ∧ some k_ ≠ (.slice Ao50 y329.length co50 : Value).ownBlock)) (by (with_reducible repeat (first | apply Kd.V_alloc | apply Kd.V_drewN | apply Kd.V_drew)); exact Kd.V_mono HO_0.out (fun _ hk => ⟨⟨hk.1, ⟨hk.2.2.2.2, ⟨hk.2.1, hk.2.2.2.1⟩⟩⟩, hk.2.2.1⟩)) hg hat)
                          have n1_ := Aside0.mk (Kd.N_afterv (ok := (fun k_ => (P0_ k_ ∨ w.heap.size ≤ k_) ∧ some k_ ≠ (v320 : Value).ownBlock ∧ some k_ ≠ (.slice Ao50 y329.length co50 : Value).ownBlock)) (by (with_reducible repeat (first | apply Kd.N_alloc | apply Kd.N_drewN | apply Kd.N_drew)); exact Kd.N_mono HO_7.out (fun _ hk => ⟨⟨hk.1, ⟨hk.2.1, hk.2.2.2⟩⟩, hk.2.2.1⟩)) hg hat)
                          have n2_ := Aside0.mk (Kd.R_over' (by (with_reducible repeat (first | apply Kd.R_alloc | apply Kd.R_drewN | apply Kd.R_drew)); exact HO321.out) (Kd.N_typed (by (with_reducible repeat (first | apply Kd.N_alloc | apply Kd.N_drewN | apply Kd.N_drew)); exact HO327.out)) (by decide) hg)
                          have n3_ := Aside0.mk (Kd.V_afterv (ok := (fun k_ => (P0_ k_ ∨ w.heap.size ≤ k_) ∧ some k_ ≠ (u7 : Value).ownBlock ∧ some k_ ≠ (v320 : Value).ownBlock ∧ some k_ ≠ (.slice Ao50 y329.length co50 : Value).ownBlock)) (by (with_reducible repeat (first | apply Kd.V_alloc | apply Kd.V_drewN | apply Kd.V_drew)); exact Kd.V_mono HL328_3.out (fun _ hk => ⟨⟨hk.1, ⟨hk.2.2.2.2, ⟨hk.2.1, hk.2.2.2.1⟩⟩⟩, hk.2.2.1⟩)) hg hat)
                          have n4_ := Aside0.mk (Kd.N_afterv (ok := (fun k_ => (P0_ k_ ∨ w.heap.size ≤ k_) ∧ some k_ ≠ (u7 : Value).ownBlock ∧ some k_ ≠ (v320 : Value).ownBlock)) (by (with_reducible repeat (first | apply Kd.N_alloc | apply Kd.N_drewN | apply Kd.N_drew)); exact Kd.N_mono HO331.out (fun _ hk => ⟨⟨hk.1, ⟨hk.2.2.2, hk.2.1⟩⟩, hk.2.2.1⟩)) hg hat)
                          have n5_ := Aside0.mk (hb)
                          have n6_ := Aside0.mk (ho)
                          clear HO_0
                          clear HO_7
                          clear HO321
                          clear HL328_3
                          clear HO331
                          clear HB
                          clear HO327
                          have HO_0 := n0_
                          have HO_7 := n1_
                          have HO321 := n2_
                          have HL328_3 := n3_
                          have HO331 := n4_
                          have HB := n5_
                          have HO334 := n6_
                          clear n0_ n1_ n2_ n3_ n4_ n5_ n6_
                          clear ho hb hg hat
                          refine hK.out _ _ ⟨HS0_, HS1_, HS2_, HS3_⟩ (fun hHeld => ?_)
                          clear hK K
                          refine norm_ (a' := ?_) ?_ ?_
                          rotate_left
                          · show Act.put _ (some 58) _ = _
                            simp only [Act.put, List.setIfInBounds_toArray, List.set_cons_zero, List.set_cons_succ, i64_w, i32_w]
                            rfl
                          refine pure_ (i := 8) (N := some 10) (v := ?_) (a' := ?_) #[true, true, true, true, true, true, true, true, true] rfl rfl (any_of HT_.out (by kernel_rfl)) (fun _ _ _ h => h) (Or.inl ⟨by rfl, ?_⟩) ?_ ?_
                          rotate_left
                          · intro w'
                            go_simp
                            with_reducible rfl
                          rotate_left
                          · simp only [Act.put, List.setIfInBounds_toArray, List.set_cons_zero, List.set_cons_succ, i64_w, i32_w]
                            rfl
                          refine done_ (done_of HT_.out (by kernel_rfl)) ?_
                          obtain ⟨Ao51, co51, eo51⟩ := Kd.N_slice HO_7.out
                          subst eo51
                          try go_wp2_with (first | ((with_reducible refine gate_callee (f := 17) rfl ?_); refine goesL_ (some 62) rfl rfl Try.func17 (by kernel_rfl) rfl #[.slice Ao51 x7_2.length co51, .slice A1 l1.length c1] rfl (by (try simp only [List.map_toArray, List.map_cons, List.map_nil]); first | done | rfl | (simp only [List.length_drop, List.length_take]; rfl)) ?_; (with_reducible refine (choose_Keys.calls k2 _ _ x7_2 _ _ l1 t335 _ ?side1 ?side2 ?side3 ?side4 A33.out).mono ?_); (case side1 => repeat (first | exact (Kd.N_reads' HO_7.out).2.2 | (with_reducible refine Kd.C_alloc ?_ _) | (with_reducible refine Kd.C_drewN ?_ _) | (with_reducible refine Kd.C_drew ?_))); (case side2 => exact (Kd.N_reads' HO_7.out).2.1); (case side3 => repeat (first | exact (Kd.C_below HR1.out HB.out) | (with_reducible refine Kd.C_alloc ?_ _) | (with_reducible refine Kd.C_drewN ?_ _) | (with_reducible refine Kd.C_drew ?_))); (case side4 => exact HC1.out); rintro e w52 ⟨v336, rfl, ho0, hb⟩; refine ⟨_, rfl, ?_⟩; have n0_ := Aside0.mk (Kd.V_elder' (by (with_reducible repeat (first | apply Kd.V_alloc | apply Kd.V_drewN | apply Kd.V_drew)); exact HO_0.out) (Kd.R_base ho0) hb); have n1_ := Aside0.mk (Kd.N_elder' (by (with_reducible repeat (first | apply Kd.N_alloc | apply Kd.N_drewN | apply Kd.N_drew)); exact HO_7.out) (Kd.R_base ho0) hb); have n2_ := Aside0.mk (Kd.R_elder' (by (with_reducible repeat (first | apply Kd.R_alloc | apply Kd.R_drewN | apply Kd.R_drew)); exact HO321.out) (Kd.R_base ho0) hb); have n3_ := Aside0.mk (Kd.V_elder' (by (with_reducible repeat (first | apply Kd.V_alloc | apply Kd.V_drewN | apply Kd.V_drew)); exact HL328_3.out) (Kd.R_base ho0) hb); have n4_ := Aside0.mk (Kd.N_elder' (by (with_reducible repeat (first | apply Kd.N_alloc | apply Kd.N_drewN | apply Kd.N_drew)); exact HO331.out) (Kd.R_base ho0) hb); have n5_ := Aside0.mk (Kd.N_elder' (by (with_reducible repeat (first | apply Kd.N_alloc | apply Kd.N_drewN | apply Kd.N_drew)); exact HO334.out) (Kd.R_base ho0) hb); have n6_ := Aside0.mk (Kd.R_lower (Kd.R_new' (Kd.R_newM (M := fun k_ => (w.heap.size ≤ k_)) ho0 (below_size (by repeat (first | (with_reducible first | exact HB.out | apply below_alloc | apply pw_below_drewN | apply below_drew1) | exact HB.out))) (fun k_ h_ => h_)) (Kd.R_lt (by (with_reducible repeat (first | apply Kd.R_alloc | apply Kd.R_drewN | apply Kd.R_drew)); exact HO321.out))) (below_size (by repeat (first | (with_reducible first | exact HB.out | apply below_alloc | apply pw_below_drewN | apply below_drew1) | exact HB.out)))); have n7_ := Aside0.mk (below_step (by repeat (first | (with_reducible first | exact HB.out | apply below_alloc | apply pw_below_drewN | apply below_drew1) | exact HB.out)) hb); clear HO_0; clear HO_7; clear HO321; clear HL328_3; clear HO331; clear HO334; clear HB; have HO_0 := n0_; have HO_7 := n1_; have HO321 := n2_; have HL328_3 := n3_; have HO331 := n4_; have HO334 := n5_; have HO337 := n6_; have HB := n7_; clear n0_ n1_ n2_ n3_ n4_ n5_ n6_ n7_; (try clear hb); (try clear hb2); (try clear hk); (try clear hi); (try clear ho0); obtain ⟨Ao53, co53, eo53⟩ := Kd.R_slice HO321.out; subst eo53; obtain ⟨Ao54, co54, eo54⟩ := Kd.R_slice HO337.out; subst eo54) | ((with_reducible refine gate_callee (f := 16) rfl ?_); refine goesL_ (some 63) rfl rfl Try.func16 (by kernel_rfl) rfl #[.slice Ao53 t319.length co53, .slice Ao54 t335.length co54] rfl (by (try simp only [List.map_toArray, List.map_cons, List.map_nil]); first | done | rfl | (simp only [List.length_drop, List.length_take]; rfl)) ?_; (with_reducible refine (samphireref16_Strings.calls k2 _ _ t319 _ _ t335 true _ ?side1 ?side2 ?side3 ?side4 A34.out).mono ?_); (case side1 => repeat (first | exact (Kd.R_reads' HO321.out).2.2 | (with_reducible refine Kd.C_alloc ?_ _) | (with_reducible refine Kd.C_drewN ?_ _) | (with_reducible refine Kd.C_drew ?_))); (case side2 => exact (Kd.R_reads' HO321.out).2.1); (case side3 => repeat (first | exact (Kd.R_reads' HO337.out).2.2 | (with_reducible refine Kd.C_alloc ?_ _) | (with_reducible refine Kd.C_drewN ?_ _) | (with_reducible refine Kd.C_drew ?_))); (case side4 => exact (Kd.R_reads' HO337.out).2.1); rintro e w' ⟨rfl, ⟨nd, rfl⟩⟩; refine ⟨_, rfl, ?_⟩) | (go_at_call 17; (with_reducible refine (choose_Keys.calls k2 _ _ l0 _ _ t319 t339 _ ?side1 ?side2 ?side3 ?side4 A37.out).mono ?_); (case side1 => repeat (first | exact (Kd.V_reads' HO_0.out).2.2 | (with_reducible refine Kd.C_alloc ?_ _) | (with_reducible refine Kd.C_drewN ?_ _) | (with_reducible refine Kd.C_drew ?_))); (case side2 => exact (Kd.V_reads' HO_0.out).2.1); (case side3 => repeat (first | exact (Kd.R_reads' HO321.out).2.2 | (with_reducible refine Kd.C_alloc ?_ _) | (with_reducible refine Kd.C_drewN ?_ _) | (with_reducible refine Kd.C_drew ?_))); (case side4 => exact (Kd.R_reads' HO321.out).2.1); rintro e w55 ⟨v340, rfl, ho0, hb⟩; have n0_ := Aside0.mk (Kd.V_elder' (by (with_reducible repeat (first | apply Kd.V_alloc | apply Kd.V_drewN | apply Kd.V_drew)); exact HO_0.out) (Kd.R_base ho0) hb); have n1_ := Aside0.mk (Kd.N_elder' (by (with_reducible repeat (first | apply Kd.N_alloc | apply Kd.N_drewN | apply Kd.N_drew)); exact HO_7.out) (Kd.R_base ho0) hb); have n2_ := Aside0.mk (Kd.R_elder' (by (with_reducible repeat (first | apply Kd.R_alloc | apply Kd.R_drewN | apply Kd.R_drew)); exact HO321.out) (Kd.R_base ho0) hb); have n3_ := Aside0.mk (Kd.V_elder' (by (with_reducible repeat (first | apply Kd.V_alloc | apply Kd.V_drewN | apply Kd.V_drew)); exact HL328_3.out) (Kd.R_base ho0) hb); have n4_ := Aside0.mk (Kd.N_elder' (by (with_reducible repeat (first | apply Kd.N_alloc | apply Kd.N_drewN | apply Kd.N_drew)); exact HO331.out) (Kd.R_base ho0) hb); have n5_ := Aside0.mk (Kd.N_elder' (by (with_reducible repeat (first | apply Kd.N_alloc | apply Kd.N_drewN | apply Kd.N_drew)); exact HO334.out) (Kd.R_base ho0) hb); have n6_ := Aside0.mk (Kd.R_elder' (by (with_reducible repeat (first | apply Kd.R_alloc | apply Kd.R_drewN | apply Kd.R_drew)); exact HO337.out) (Kd.R_base ho0) hb); have n7_ := Aside0.mk (Kd.R_lower (Kd.R_new' (Kd.R_new' (Kd.R_newM (M := fun k_ => (w.heap.size ≤ k_)) ho0 (below_size (by repeat (first | (with_reducible first | exact HB.out | apply below_alloc | apply pw_below_drewN | apply below_drew1) | exact HB.out))) (fun k_ h_ => h_)) (Kd.R_lt (by (with_reducible repeat (first | apply Kd.R_alloc | apply Kd.R_drewN | apply Kd.R_drew)); exact HO321.out))) (Kd.R_lt (by (with_reducible repeat (first | apply Kd.R_alloc | apply Kd.R_drewN | apply Kd.R_drew)); exact HO337.out))) (below_size (by repeat (first | (with_reducible first | exact HB.out | apply below_alloc | apply pw_below_drewN | apply below_drew1) | exact HB.out)))); have n8_ := Aside0.mk (below_step (by repeat (first | (with_reducible first | exact HB.out | apply below_alloc | apply pw_below_drewN | apply below_drew1) | exact HB.out)) hb); clear HO_0; clear HO_7; clear HO321; clear HL328_3; clear HO331; clear HO334; clear HO337; clear HB; have HO_0 := n0_; have HO_7 := n1_; have HO321 := n2_; have HL328_3 := n3_; have HO331 := n4_; have HO334 := n5_; have HO337 := n6_; have HO341 := n7_; have HB := n8_; clear n0_ n1_ n2_ n3_ n4_ n5_ n6_ n7_ n8_; (try clear hb); (try clear hb2); (try clear hk); (try clear hi); (try clear ho0); obtain ⟨Ao56, co56, eo56⟩ := Kd.R_slice HO341.out; subst eo56) | (go_at_call 16; (with_reducible refine (samphireref16_Strings.calls k2 _ _ t339 _ _ t319 true _ ?side1 ?side2 ?side3 ?side4 A38.out).mono ?_); (case side1 => repeat (first | exact (Kd.R_reads' HO341.out).2.2 | (with_reducible refine Kd.C_alloc ?_ _) | (with_reducible refine Kd.C_drewN ?_ _) | (with_reducible refine Kd.C_drew ?_))); (case side2 => exact (Kd.R_reads' HO341.out).2.1); (case side3 => repeat (first | exact (Kd.R_reads' HO321.out).2.2 | (with_reducible refine Kd.C_alloc ?_ _) | (with_reducible refine Kd.C_drewN ?_ _) | (with_reducible refine Kd.C_drew ?_))); (case side4 => exact (Kd.R_reads' HO321.out).2.1); rintro e w' ⟨rfl, ⟨nd, rfl⟩⟩) | (go_at_call 11; (with_reducible refine (samphirelaw19_awake.calls k2  t343 hrT _ A40.out).mono ?_); rintro e w57 ⟨rfl, hb⟩; have n0_ := Aside0.mk (Kd.V_below (by (with_reducible repeat (first | apply Kd.V_alloc | apply Kd.V_drewN | apply Kd.V_drew)); exact HO_0.out) hb); have n1_ := Aside0.mk (Kd.N_below (by (with_reducible repeat (first | apply Kd.N_alloc | apply Kd.N_drewN | apply Kd.N_drew)); exact HO_7.out) hb); have n2_ := Aside0.mk (Kd.R_below (by (with_reducible repeat (first | apply Kd.R_alloc | apply Kd.R_drewN | apply Kd.R_drew)); exact HO321.out) hb); have n3_ := Aside0.mk (Kd.V_below (by (with_reducible repeat (first | apply Kd.V_alloc | apply Kd.V_drewN | apply Kd.V_drew)); exact HL328_3.out) hb); have n4_ := Aside0.mk (Kd.N_below (by (with_reducible repeat (first | apply Kd.N_alloc | apply Kd.N_drewN | apply Kd.N_drew)); exact HO331.out) hb); have n5_ := Aside0.mk (Kd.N_below (by (with_reducible repeat (first | apply Kd.N_alloc | apply Kd.N_drewN | apply Kd.N_drew)); exact HO334.out) hb); have n6_ := Aside0.mk (Kd.R_below (by (with_reducible repeat (first | apply Kd.R_alloc | apply Kd.R_drewN | apply Kd.R_drew)); exact HO337.out) hb); have n7_ := Aside0.mk (Kd.R_below (by (with_reducible repeat (first | apply Kd.R_alloc | apply Kd.R_drewN | apply Kd.R_drew)); exact HO341.out) hb); have n8_ := Aside0.mk (below_step (by repeat (first | (with_reducible first | exact HB.out | apply below_alloc | apply pw_below_drewN | apply below_drew1) | exact HB.out)) hb); clear HO_0; clear HO_7; clear HO321; clear HL328_3; clear HO331; clear HO334; clear HO337; clear HO341; clear HB; have HO_0 := n0_; have HO_7 := n1_; have HO321 := n2_; have HL328_3 := n3_; have HO331 := n4_; have HO334 := n5_; have HO337 := n6_; have HO341 := n7_; have HB := n8_; clear n0_ n1_ n2_ n3_ n4_ n5_ n6_ n7_ n8_; (try clear hb); (try clear hb2); (try clear hk); (try clear hi)))
                          go_ret
                          exact ⟨by first | rfl | (simp [errW_none, errW_some] <;> rfl) | (simp [*, errW_none, errW_some] <;> rfl), by repeat (first | (with_reducible first | exact HB.out | apply below_alloc | apply pw_below_drewN | apply below_drew1) | exact HB.out)⟩
                        · replace c39 := Bool.eq_false_iff.mpr c39
                          subst c39
                          have H1 : (some false) = some r := by rw [if_neg (show ¬ (false = true) by decide)] at H; exact H
                          exact Bool.noConfusion ((Option.some.inj H1).trans hrT.out)
                      · rw [if_neg c36] at H
                        have c36b0 : decide (8 ≤ (l0.length : Int)) = false := decide_eq_false c36
                        have c36b1 : decide (8 ≤ l0.length) = false := decide_eq_false (by omega)
                        clear c36
                        replace H := Option.bind_eq_some_iff.mp H
                        obtain ⟨t344, A740, H⟩ := H
                        replace H : ((samphireref16_Strings.f k2 t319 t344).bind fun t347 => (if t347 = true then ((choose_Keys.f k2 l0 t319).bind fun t348 => ((samphireref16_Strings.f k2 t348 t319).bind fun t351 => (if t351 = true then ((samphirelaw19_awake.f k2).bind fun t352 => (some t352)) else (some false)))) else (some false))) = some r := H
                        have A74 := Aside0.mk A740
                        clear A740
                        replace H := Option.bind_eq_some_iff.mp H
                        obtain ⟨t347, A750, H⟩ := H
                        replace H : (if t347 = true then ((choose_Keys.f k2 l0 t319).bind fun t348 => ((samphireref16_Strings.f k2 t348 t319).bind fun t351 => (if t351 = true then ((samphirelaw19_awake.f k2).bind fun t352 => (some t352)) else (some false)))) else (some false)) = some r := H
                        have A75 := Aside0.mk A750
                        clear A750
                        by_cases c76 : t347 = true
                        · subst c76
                          have H1 : ((choose_Keys.f k2 l0 t319).bind fun t348 => ((samphireref16_Strings.f k2 t348 t319).bind fun t351 => (if t351 = true then ((samphirelaw19_awake.f k2).bind fun t352 => (some t352)) else (some false)))) = some r := by rw [if_pos rfl] at H; exact H
                          clear H
                          have H := H1
                          clear H1
                          replace H := Option.bind_eq_some_iff.mp H
                          obtain ⟨t348, A770, H⟩ := H
                          replace H : ((samphireref16_Strings.f k2 t348 t319).bind fun t351 => (if t351 = true then ((samphirelaw19_awake.f k2).bind fun t352 => (some t352)) else (some false))) = some r := H
                          have A77 := Aside0.mk A770
                          clear A770
                          replace H := Option.bind_eq_some_iff.mp H
                          obtain ⟨t351, A780, H⟩ := H
                          replace H : (if t351 = true then ((samphirelaw19_awake.f k2).bind fun t352 => (some t352)) else (some false)) = some r := H
                          have A78 := Aside0.mk A780
                          clear A780
                          by_cases c79 : t351 = true
                          · subst c79
                            have H1 : ((samphirelaw19_awake.f k2).bind fun t352 => (some t352)) = some r := by rw [if_pos rfl] at H; exact H
                            clear H
                            have H := H1
                            clear H1
                            replace H := Option.bind_eq_some_iff.mp H
                            obtain ⟨t352, A800, H⟩ := H
                            replace H : (some t352) = some r := H
                            have A80 := Aside0.mk A800
                            clear A800
                            obtain rfl := Option.some.inj H
                            try go_wp2_with (first | ((with_reducible refine gate_callee (f := 17) rfl ?_); refine goesL_ (some 50) rfl rfl Try.func17 (by kernel_rfl) rfl #[.slice A0 l0.length c0, .slice A1 l1.length c1] rfl (by (try simp only [List.map_toArray, List.map_cons, List.map_nil]); first | done | rfl | (simp only [List.length_drop, List.length_take]; rfl)) ?_; (with_reducible refine (choose_Keys.calls k2 _ _ l0 _ _ l1 t319 _ ?side1 ?side2 ?side3 ?side4 A29.out).mono ?_); (case side1 => repeat (first | exact (Kd.V_reads' HO_0.out).2.2 | (with_reducible refine Kd.C_alloc ?_ _) | (with_reducible refine Kd.C_drewN ?_ _) | (with_reducible refine Kd.C_drew ?_))); (case side2 => exact (Kd.V_reads' HO_0.out).2.1); (case side3 => repeat (first | exact (Kd.C_below HR1.out HB.out) | (with_reducible refine Kd.C_alloc ?_ _) | (with_reducible refine Kd.C_drewN ?_ _) | (with_reducible refine Kd.C_drew ?_))); (case side4 => exact HC1.out); rintro e w81 ⟨v320, rfl, ho0, hb⟩; refine ⟨_, rfl, ?_⟩; have n0_ := Aside0.mk (Kd.V_elder' (by (with_reducible repeat (first | apply Kd.V_alloc | apply Kd.V_drewN | apply Kd.V_drew)); exact HO_0.out) (Kd.R_base ho0) hb); have n1_ := Aside0.mk (Kd.N_elder' (by (with_reducible repeat (first | apply Kd.N_alloc | apply Kd.N_drewN | apply Kd.N_drew)); exact HO_7.out) (Kd.R_base ho0) hb); have n2_ := Aside0.mk (Kd.R_lower (Kd.R_newM (M := fun k_ => (w.heap.size ≤ k_)) ho0 (below_size (by repeat (first | (with_reducible first | exact HB.out | apply below_alloc | apply pw_below_drewN | apply below_drew1) | exact HB.out))) (fun k_ h_ => h_)) (below_size (by repeat (first | (with_reducible first | exact HB.out | apply below_alloc | apply pw_below_drewN | apply below_drew1) | exact HB.out)))); have n3_ := Aside0.mk (below_step (by repeat (first | (with_reducible first | exact HB.out | apply below_alloc | apply pw_below_drewN | apply below_drew1) | exact HB.out)) hb); clear HO_0; clear HO_7; clear HB; have HO_0 := n0_; have HO_7 := n1_; have HO321 := n2_; have HB := n3_; clear n0_ n1_ n2_ n3_; (try clear hb); (try clear hb2); (try clear hk); (try clear hi); (try clear ho0)))
                            have n0_ := Aside0.mk (Kd.V_drew HO_0.out)
                            have n1_ := Aside0.mk (Kd.N_drew HO_7.out)
                            have n2_ := Aside0.mk (Kd.R_drew HO321.out)
                            have n3_ := Aside0.mk (below_drew1 HB.out)
                            clear HO_0
                            clear HO_7
                            clear HO321
                            clear HB
                            have HO_0 := n0_
                            have HO_7 := n1_
                            have HO321 := n2_
                            have HB := n3_
                            clear n0_ n1_ n2_ n3_
                            have p328 : 0 ≤ (0 : Int) := (by omega)
                            have q328 : 0 < (l0.length : Int) := of_decide_eq_true (by first | (with_reducible assumption) | assumption)
                            obtain ⟨ad328, A328_3, c328_3, e328, hx328_0, hx328_1, hx328_2, hx328_3, hl328_3, hi328_3⟩ := at_T42 (Kd.V_reads' HO_0.out).2.2 0 p328 q328
                            cases e328
                            obtain ⟨ce328, hce328, hMe328, hcc328⟩ := Kd.V_get HO_0.out z42 0 p328 (by first | exact q328 | exact of_decide_eq_true (by first | (with_reducible assumption) | assumption) | (have e_ := (Kd.V_reads' HO_0.out).1; omega))
                            obtain ⟨ua328_3, uc328_3, rfl, ul328_3, ge328_3⟩ := k42_openF hMe328
                            have hv328_3 := hcc328 3 _ rfl
                            rw [add_field _ _ 3 (by omega)] at hv328_3
                            replace hv328_3 := Option.some.inj (hv328_3.symm.trans hx328_3)
                            injection hv328_3 with hva_ hvn_ hvc_
                            rw [hva_] at ge328_3
                            rw [hvc_] at ul328_3
                            have HL328_3 := Aside0.mk (show Kd.V Kd.string 9 _ w.heap.size _ _ ((rd_T42 l0 0).f3) from Kd.V_mk ul328_3 ge328_3)
                            clear hva_ hvn_ hvc_ ge328_3 ul328_3
                            clear hcc328 hce328
                            have qi328 : (0 < l0.length) = True := eq_true (by omega)
                            (try rw [show ((0 : Int)).toNat = 0 from rfl] at hx328_0)
                            (try rw [show 0 * 4 = 0 from rfl] at hx328_0)
                            (try rw [Addr.add_zero'] at hx328_0)
                            (try rw [show ((0 : Int)).toNat = 0 from rfl] at hx328_1)
                            (try rw [show 0 * 4 = 0 from rfl] at hx328_1)
                            (try rw [Addr.add_zero'] at hx328_1)
                            (try rw [show ((0 : Int)).toNat = 0 from rfl] at hx328_2)
                            (try rw [show 0 * 4 = 0 from rfl] at hx328_2)
                            (try rw [Addr.add_zero'] at hx328_2)
                            (try rw [show ((0 : Int)).toNat = 0 from rfl] at hx328_3)
                            (try rw [show 0 * 4 = 0 from rfl] at hx328_3)
                            (try rw [Addr.add_zero'] at hx328_3)
                            have HR328_3 := Aside0.mk hi328_3
                            have HC328_3 := Aside0.mk hl328_3
                            clear hi328_3 hl328_3
                            replace p328 := eq_true p328
                            replace q328 := eq_true q328
                            refine start_ (n := 9) (S := fun w' => w'.cell? ad328 = some (.int .i64 ((rd_T42 l0 0).f0)) ∧ w'.cell? ⟨ad328.block, ad328.off + 1, none⟩ = some (.string ((rd_T42 l0 0).f1)) ∧ w'.cell? ⟨ad328.block, ad328.off + 2, none⟩ = some (.string ((rd_T42 l0 0).f2)) ∧ w'.cell? ⟨ad328.block, ad328.off + 3, none⟩ = some (.slice A328_3 ((rd_T42 l0 0).f3).length c328_3)) (ds := []) #[false, false, false, false, false, false, false, false, false] (by kernel_rfl) rfl rfl ⟨hx328_0, hx328_1, hx328_2, hx328_3⟩ (fun hHeld => ?_); refine with_tabW samphirelaw19_ChooseTurned.tab10 samphirelaw19_ChooseTurned.bits10 (fun HT_ HW_ => ?_)
                            generalize w81.drew = w82 at HO_0 HO_7 HO321 HB HL328_3 HR328_3 hx328_0 hx328_1 hx328_2 hx328_3 hHeld ⊢
                            refine pure_ (i := 1) (N := some 52) (v := ?_) (a' := ?_) #[false, true, false, false, false, false, false, false, false] rfl rfl (any_of HT_.out (by kernel_rfl)) (fun _ _ _ h => h) (Or.inl ⟨by rfl, ?_⟩) ?_ ?_
                            rotate_left
                            · intro w'
                              go_simp
                              with_reducible rfl
                            rotate_left
                            · simp only [Act.put, List.setIfInBounds_toArray, List.set_cons_zero, List.set_cons_succ, i64_w, i32_w]
                              rfl
                            refine pure_ (i := 3) (N := some 54) (v := ?_) (a' := ?_) #[false, true, false, true, false, false, false, false, false] rfl rfl (any_of HT_.out (by kernel_rfl)) (fun _ _ _ h => h) (Or.inl ⟨by rfl, ?_⟩) ?_ ?_
                            rotate_left
                            · intro w'
                              go_simp
                              with_reducible rfl
                            rotate_left
                            · simp only [Act.put, List.setIfInBounds_toArray, List.set_cons_zero, List.set_cons_succ, i64_w, i32_w]
                              rfl
                            refine pure_ (i := 4) (N := some 55) (v := ?_) (a' := ?_) #[false, true, false, true, true, false, false, false, false] rfl rfl (any_of HT_.out (by kernel_rfl)) (fun _ _ _ h => h) (Or.inl ⟨by rfl, ?_⟩) ?_ ?_
                            rotate_left
                            · intro w'
                              go_simp
                              with_reducible rfl
                            rotate_left
                            · simp only [Act.put, List.setIfInBounds_toArray, List.set_cons_zero, List.set_cons_succ, i64_w, i32_w]
                              rfl
                            refine take_ (i := 5) (N := some 56) (v := ?_) (a' := ?_) #[false, true, false, true, true, true, false, false, false] rfl rfl (take_ofW HT_.out HW_.out (by kernel_rfl)) (fun _ _ _ h => h) (Or.inl ⟨by rfl, ?_⟩) hHeld ?_ ?_
                            rotate_left
                            · rintro w' ⟨s0, s1, s2, s3⟩
                              go_simp
                              with_reducible rfl
                            rotate_left
                            · simp only [Act.put, List.setIfInBounds_toArray, List.set_cons_zero, List.set_cons_succ, i64_w, i32_w]
                              rfl
                            refine join_ (σ := Value × Value × Value) 2 #[true, true, true, true, true, true, true, false, false] (fun s_ => [(51, s_.1), (53, s_.2.1), (57, s_.2.2)]) (fun s_ w' => (w'.cell? ad328 = some (.int .i64 ((rd_T42 l0 0).f0)) ∧ w'.cell? ⟨ad328.block, ad328.off + 1, none⟩ = some (.string ((rd_T42 l0 0).f1)) ∧ w'.cell? ⟨ad328.block, ad328.off + 2, none⟩ = some (.string ((rd_T42 l0 0).f2)) ∧ w'.cell? ⟨ad328.block, ad328.off + 3, none⟩ = some (.slice A328_3 ((rd_T42 l0 0).f3).length c328_3)) ∧ (Kd.V Kd.string 9 w' w.heap.size (fun k_ => (P0_ k_ ∨ w.heap.size ≤ k_) ∧ some k_ ≠ (v320 : Value).ownBlock ∧ some k_ ≠ (s_.2.1 : Value).ownBlock ∧ some k_ ≠ (s_.2.2 : Value).ownBlock ∧ some k_ ≠ (u7 : Value).ownBlock) (.slice A328_3 ((rd_T42 l0 0).f3).length c328_3) ((rd_T42 l0 0).f3)) ∧ (Kd.R Kd.string 9 w' w.heap.size (fun k_ => (w.heap.size ≤ k_)) v320 t319) ∧ (Kd.N k42 42 w' w.heap.size (fun k_ => (P0_ k_ ∨ w.heap.size ≤ k_) ∧ some k_ ≠ (v320 : Value).ownBlock ∧ some k_ ≠ (s_.2.2 : Value).ownBlock ∧ some k_ ≠ (u7 : Value).ownBlock) s_.2.1 y325) ∧ (Kd.N k42 42 w' w.heap.size (fun k_ => (P0_ k_ ∨ w.heap.size ≤ k_) ∧ some k_ ≠ (v320 : Value).ownBlock ∧ some k_ ≠ (s_.2.1 : Value).ownBlock ∧ some k_ ≠ (u7 : Value).ownBlock) s_.2.2 y329) ∧ (Kd.V k42 42 w' w.heap.size (fun k_ => (P0_ k_ ∨ w.heap.size ≤ k_) ∧ some k_ ≠ (v320 : Value).ownBlock ∧ some k_ ≠ (s_.2.1 : Value).ownBlock ∧ some k_ ≠ (s_.2.2 : Value).ownBlock ∧ some k_ ≠ (u7 : Value).ownBlock) (.slice (some ad328) l0.length c0) l0) ∧ (Kd.N k42 42 w' w.heap.size (fun k_ => (P0_ k_ ∨ w.heap.size ≤ k_) ∧ some k_ ≠ (v320 : Value).ownBlock ∧ some k_ ≠ (s_.2.1 : Value).ownBlock ∧ some k_ ≠ (s_.2.2 : Value).ownBlock) u7 x7_2) ∧ (Below w.heap.size w w')) ?_ ?_
                            rotate_left
                            · intro hCont
                              refine two_ (i := 0) (j := 6) (Ni := some 51) (Nj := some 57) #[true, true, false, true, true, true, false, false, false] #[false, true, false, true, true, true, true, false, false] rfl rfl rfl rfl (two_of HT_.out (by kernel_rfl)) (by decide) (by decide) (fun K hK => ?_) (fun K hK => ?_)
                              · skip
                                refine Kd.N_lit_step k42 _ 42 ?hg (N' := 51) ?hd (xs := ([] : List (S42))) (inner := []) (ok := (fun k_ => (P0_ k_ ∨ w.heap.size ≤ k_) ∧ some k_ ≠ (u7 : Value).ownBlock ∧ some k_ ≠ (v320 : Value).ownBlock)) (okp := (fun k_ => (P0_ k_ ∨ w.heap.size ≤ k_) ∧ some k_ ≠ (u7 : Value).ownBlock ∧ some k_ ≠ (v320 : Value).ownBlock)) ?hr ?hp (fun _ hk => hk) ((show ∀ k_, w82.heap.size ≤ k_ → (fun k_ => (P0_ k_ ∨ w.heap.size ≤ k_) ∧ some k_ ≠ (u7 : Value).ownBlock ∧ some k_ ≠ (v320 : Value).ownBlock) k_ from fun k_ hk => ⟨(.inr (Nat.le_trans (below_size (by repeat (first | (with_reducible first | exact HB.out | apply below_alloc | apply pw_below_drewN | apply below_drew1) | exact HB.out))) hk)), Kd.fresh' (Kd.N_lt (by (with_reducible repeat (first | apply Kd.N_alloc | apply Kd.N_drewN | apply Kd.N_drew)); exact HO_7.out)) k_ hk, Kd.fresh' (Kd.R_lt (by (with_reducible repeat (first | apply Kd.R_alloc | apply Kd.R_drewN | apply Kd.R_drew)); exact HO321.out)) k_ hk⟩) _ (Nat.le_refl _)) (Below.refl _ _) (Nat.le_refl _) (by simp) ?_; (case hd => rfl); (case hg => rfl); (case hr => first | (go_simp; done) | (go_simp; rfl)); (case hp => exact (Reps.none _ _))
                                intro v323 w83 ho84 hb hg_ hnew_
                                have HS0_ := (hb.cell (World.block_lt_of_cell? _ _ (hHeld.1))).trans (hHeld.1)
                                have HS1_ := (hb.cell (World.block_lt_of_cell? _ _ (hHeld.2.1))).trans (hHeld.2.1)
                                have HS2_ := (hb.cell (World.block_lt_of_cell? _ _ (hHeld.2.2.1))).trans (hHeld.2.2.1)
                                have HS3_ := (hb.cell (World.block_lt_of_cell? _ _ (hHeld.2.2.2))).trans (hHeld.2.2.2)
                                clear hg_ hnew_
                                (first | rw [← Ny322.out] at ho84 | (simp only [Int.reduceToNat] at ho84; rw [← Ny322.out] at ho84))
                                have n0_ := Aside0.mk (Kd.V_elder' (by (with_reducible repeat (first | apply Kd.V_alloc | apply Kd.V_drewN | apply Kd.V_drew)); exact HO_0.out) (Kd.N_base ho84) hb)
                                have n1_ := Aside0.mk (Kd.N_elder' (by (with_reducible repeat (first | apply Kd.N_alloc | apply Kd.N_drewN | apply Kd.N_drew)); exact HO_7.out) (Kd.N_base ho84) hb)
                                have n2_ := Aside0.mk (Kd.R_below (by (with_reducible repeat (first | apply Kd.R_alloc | apply Kd.R_drewN | apply Kd.R_drew)); exact HO321.out) hb)
                                have n3_ := Aside0.mk (Kd.V_elder' (by (with_reducible repeat (first | apply Kd.V_alloc | apply Kd.V_drewN | apply Kd.V_drew)); exact HL328_3.out) (Kd.N_base ho84) hb)
                                have n4_ := Aside0.mk (Kd.N_lower ho84 (below_size (by repeat (first | (with_reducible first | exact HB.out | apply below_alloc | apply pw_below_drewN | apply below_drew1) | exact HB.out))))
                                have n5_ := Aside0.mk (Kd.C_below (by repeat (first | (with_reducible exact HR328_3.out) | (with_reducible refine Kd.C_alloc ?_ _) | (with_reducible refine Kd.C_drewN ?_ _) | (with_reducible refine Kd.C_drew ?_) | exact HR328_3.out)) hb)
                                have n6_ := Aside0.mk (below_step (by repeat (first | (with_reducible first | exact HB.out | apply below_alloc | apply pw_below_drewN | apply below_drew1) | exact HB.out)) hb)
                                clear HO_0
                                clear HO_7
                                clear HO321
                                clear HL328_3
                                clear HR328_3
                                clear HB
                                have HO_0 := n0_
                                have HO_7 := n1_
                                have HO321 := n2_
                                have HL328_3 := n3_
                                have HO324 := n4_
                                have HR328_3 := n5_
                                have HB := n6_
                                clear n0_ n1_ n2_ n3_ n4_ n5_ n6_
                                clear hb ho84
                                refine hK.out _ _ ⟨HS0_, HS1_, HS2_, HS3_⟩ (fun hHeld => ?_)
                                clear hK K
                                refine norm_ (a' := ?_) ?_ ?_
                                rotate_left
                                · show Act.put _ (some 51) _ = _
                                  simp only [Act.put, List.setIfInBounds_toArray, List.set_cons_zero, List.set_cons_succ, i64_w, i32_w]
                                  rfl
                                refine two_ (i := 2) (j := 6) (Ni := some 53) (Nj := some 57) #[true, true, true, true, true, true, false, false, false] #[true, true, false, true, true, true, true, false, false] rfl rfl rfl rfl (two_of HT_.out (by kernel_rfl)) (by decide) (by decide) (fun K hK => ?_) (fun K hK => ?_)
                                · skip
                                  refine Kd.N_append_rows_step k42 (w0 := w) w.heap.size (by rfl) (.tmp 51) (.tmp 52) 22 42 (.agg #[(.int .i64 0), (.string ⟨#[]⟩), (.string ⟨#[]⟩), (.slice none 0 0)]) 64 rfl Try.underlying22 info42 rfl (by decide) (by omega) v323 y322 l0 _ _ _ (fun k_ => (P0_ k_ ∨ w.heap.size ≤ k_) ∧ some k_ ≠ (u7 : Value).ownBlock ∧ some k_ ≠ (v320 : Value).ownBlock) (fun k_ => ((fun k_ => (P0_ k_ ∨ w.heap.size ≤ k_) ∧ some k_ ≠ (u7 : Value).ownBlock ∧ some k_ ≠ (v320 : Value).ownBlock)) k_ ∧ some k_ ≠ (v323 : Value).ownBlock) rfl rfl ?aO ?aR (fun _ hk => hk) ?aF ?aB ?aS ?aL ?_
                                  (case aR => exact (by skip; exact Kd.V_F (Kd.V_mono (ok' := (fun k_ => ((fun k_ => (P0_ k_ ∨ w.heap.size ≤ k_) ∧ some k_ ≠ (u7 : Value).ownBlock ∧ some k_ ≠ (v320 : Value).ownBlock)) k_ ∧ some k_ ≠ (v323 : Value).ownBlock)) (HO_0.out) (fun k_ hk => ⟨⟨hk.1.1.1, ⟨hk.1.1.2, hk.1.2⟩⟩, hk.2⟩))))
                                  (case aB => exact (by repeat (first | (with_reducible first | exact HB.out | apply below_alloc | apply pw_below_drewN | apply below_drew1) | exact HB.out)))
                                  (case aF => exact (fun k_ hk => ⟨(.inr (Nat.le_trans (below_size (by repeat (first | (with_reducible first | exact HB.out | apply below_alloc | apply pw_below_drewN | apply below_drew1) | exact HB.out))) hk)), Kd.fresh' (Kd.N_lt (by (with_reducible repeat (first | apply Kd.N_alloc | apply Kd.N_drewN | apply Kd.N_drew)); exact HO_7.out)) k_ hk, Kd.fresh' (Kd.R_lt (by (with_reducible repeat (first | apply Kd.R_alloc | apply Kd.R_drewN | apply Kd.R_drew)); exact HO321.out)) k_ hk⟩))
                                  (case aO => exact (by (with_reducible repeat (first | apply Kd.N_alloc | apply Kd.N_drewN | apply Kd.N_drew)); exact HO324.out))
                                  (case aS => exact (below_size (by repeat (first | (with_reducible first | exact HB.out | apply below_alloc | apply pw_below_drewN | apply below_drew1) | exact HB.out))))
                                  (case aL => have := LMc30.out; omega)
                                  intro v326 w85 ho hb hg hat
                                  have HS0_ := cell_grown hg (hHeld.1) (by have hk_ := Go.Proofs.YtnpipaehcklnbaaW.Fb.V_ok HO_0.out (by decide) (by have h_ : (0 : Int) < (l0.length : Int) := (by first | (exact of_decide_eq_true (by first | (with_reducible assumption) | assumption)) | omega); omega); first | exact hk_.2 | exact hk_.2.2 | exact hk_.2.1 | exact hk_.1.2 | exact hk_.2.2.1 | exact hk_.2.2.2 | exact hk_.1.2.2 | exact hk_.1.2.1 | exact hk_.2.1.2 | exact hk_.2.1.1)
                                  have HS1_ := cell_grown hg (hHeld.2.1) (by have hk_ := Go.Proofs.YtnpipaehcklnbaaW.Fb.V_ok HO_0.out (by decide) (by have h_ : (0 : Int) < (l0.length : Int) := (by first | (exact of_decide_eq_true (by first | (with_reducible assumption) | assumption)) | omega); omega); first | exact hk_.2 | exact hk_.2.2 | exact hk_.2.1 | exact hk_.1.2 | exact hk_.2.2.1 | exact hk_.2.2.2 | exact hk_.1.2.2 | exact hk_.1.2.1 | exact hk_.2.1.2 | exact hk_.2.1.1)
                                  have HS2_ := cell_grown hg (hHeld.2.2.1) (by have hk_ := Go.Proofs.YtnpipaehcklnbaaW.Fb.V_ok HO_0.out (by decide) (by have h_ : (0 : Int) < (l0.length : Int) := (by first | (exact of_decide_eq_true (by first | (with_reducible assumption) | assumption)) | omega); omega); first | exact hk_.2 | exact hk_.2.2 | exact hk_.2.1 | exact hk_.1.2 | exact hk_.2.2.1 | exact hk_.2.2.2 | exact hk_.1.2.2 | exact hk_.1.2.1 | exact hk_.2.1.2 | exact hk_.2.1.1)
                                  have HS3_ := cell_grown hg (hHeld.2.2.2) (by have hk_ := Go.Proofs.YtnpipaehcklnbaaW.Fb.V_ok HO_0.out (by decide) (by have h_ : (0 : Int) < (l0.length : Int) := (by first | (exact of_decide_eq_true (by first | (with_reducible assumption) | assumption)) | omega); omega); first | exact hk_.2 | exact hk_.2.2 | exact hk_.2.1 | exact hk_.1.2 | exact hk_.2.2.1 | exact hk_.2.2.2 | exact hk_.1.2.2 | exact hk_.1.2.1 | exact hk_.2.1.2 | exact hk_.2.1.1)
                                  rw [← Ny325.out] at ho
                                  have n0_ := Aside0.mk (Kd.V_afterv (ok := (fun k_ => (P0_ k_ ∨ w.heap.size ≤ k_) ∧ some k_ ≠ (u7 : Value).ownBlock ∧ some k_ ≠ (v320 : Value).ownBlock)) (by (with_reducible repeat (first | apply Kd.V_alloc | apply Kd.V_drewN | apply Kd.V_drew)); exact Kd.V_mono HO_0.out (fun _ hk => ⟨⟨hk.1.1.1, ⟨hk.1.1.2, hk.1.2⟩⟩, hk.2⟩)) hg hat)
                                  have n1_ := Aside0.mk (Kd.N_afterv (ok := (fun k_ => (P0_ k_ ∨ w.heap.size ≤ k_) ∧ some k_ ≠ (v320 : Value).ownBlock)) (by (with_reducible repeat (first | apply Kd.N_alloc | apply Kd.N_drewN | apply Kd.N_drew)); exact HO_7.out) hg hat)
                                  have n2_ := Aside0.mk (Kd.R_over' (by (with_reducible repeat (first | apply Kd.R_alloc | apply Kd.R_drewN | apply Kd.R_drew)); exact HO321.out) (Kd.N_typed (by (with_reducible repeat (first | apply Kd.N_alloc | apply Kd.N_drewN | apply Kd.N_drew)); exact HO324.out)) (by decide) hg)
                                  have n3_ := Aside0.mk (Kd.V_afterv (ok := (fun k_ => (P0_ k_ ∨ w.heap.size ≤ k_) ∧ some k_ ≠ (u7 : Value).ownBlock ∧ some k_ ≠ (v320 : Value).ownBlock)) (by (with_reducible repeat (first | apply Kd.V_alloc | apply Kd.V_drewN | apply Kd.V_drew)); exact Kd.V_mono HL328_3.out (fun _ hk => ⟨⟨hk.1.1.1, ⟨hk.1.1.2, hk.1.2⟩⟩, hk.2⟩)) hg hat)
                                  have n4_ := Aside0.mk (hb)
                                  have n5_ := Aside0.mk (ho)
                                  clear HO_0
                                  clear HO_7
                                  clear HO321
                                  clear HL328_3
                                  clear HB
                                  clear HO324
                                  have HO_0 := n0_
                                  have HO_7 := n1_
                                  have HO321 := n2_
                                  have HL328_3 := n3_
                                  have HB := n4_
                                  have HO327 := n5_
                                  clear n0_ n1_ n2_ n3_ n4_ n5_
                                  clear ho hb hg hat
                                  refine hK.out _ _ ⟨HS0_, HS1_, HS2_, HS3_⟩ (fun hHeld => ?_)
                                  clear hK K
                                  refine norm_ (a' := ?_) ?_ ?_
                                  rotate_left
                                  · show Act.put _ (some 53) _ = _
                                    simp only [Act.put, List.setIfInBounds_toArray, List.set_cons_zero, List.set_cons_succ, i64_w, i32_w]
                                    rfl
                                  refine one_ (i := 6) (N := some 57) #[true, true, true, true, true, true, true, false, false] rfl rfl (one_of HT_.out (by kernel_rfl)) (by decide) (fun K hK => ?_)
                                  refine Kd.N_lit_step k42 _ 42 ?hg (N' := 57) ?hd (xs := ([(⟨(rd_T42 l0 0).f0, (rd_T42 l0 0).f1, (rd_T42 l0 0).f2, (rd_T42 l0 0).f3⟩ : S42)] : List (S42))) (inner := [.int .i64 ((rd_T42 l0 0).f0), .string ((rd_T42 l0 0).f1), .string ((rd_T42 l0 0).f2), .slice A328_3 ((rd_T42 l0 0).f3).length c328_3]) (ok := (fun k_ => (P0_ k_ ∨ w.heap.size ≤ k_) ∧ some k_ ≠ (u7 : Value).ownBlock ∧ some k_ ≠ (v320 : Value).ownBlock ∧ some k_ ≠ (v326 : Value).ownBlock)) (okp := (fun k_ => (P0_ k_ ∨ w.heap.size ≤ k_) ∧ some k_ ≠ (u7 : Value).ownBlock ∧ some k_ ≠ (v320 : Value).ownBlock ∧ some k_ ≠ (v326 : Value).ownBlock)) ?hr ?hp (fun _ hk => hk) ((show ∀ k_, w85.heap.size ≤ k_ → (fun k_ => (P0_ k_ ∨ w.heap.size ≤ k_) ∧ some k_ ≠ (u7 : Value).ownBlock ∧ some k_ ≠ (v320 : Value).ownBlock ∧ some k_ ≠ (v326 : Value).ownBlock) k_ from fun k_ hk => ⟨(.inr (Nat.le_trans (below_size (by repeat (first | (with_reducible first | exact HB.out | apply below_alloc | apply pw_below_drewN | apply below_drew1) | exact HB.out))) hk)), Kd.fresh' (Kd.N_lt (by (with_reducible repeat (first | apply Kd.N_alloc | apply Kd.N_drewN | apply Kd.N_drew)); exact HO_7.out)) k_ hk, Kd.fresh' (Kd.R_lt (by (with_reducible repeat (first | apply Kd.R_alloc | apply Kd.R_drewN | apply Kd.R_drew)); exact HO321.out)) k_ hk, Kd.fresh' (Kd.N_lt (by (with_reducible repeat (first | apply Kd.N_alloc | apply Kd.N_drewN | apply Kd.N_drew)); exact HO327.out)) k_ hk⟩) _ (Nat.le_refl _)) (Below.refl _ _) (Nat.le_refl _) (by simp) ?_; (case hd => rfl); (case hg => rfl); (case hr => first | (go_simp; done) | (go_simp; rfl)); (case hp => exact (Reps.c4 (show Kd.FK k42 _ _ (⟨(rd_T42 l0 0).f0, (rd_T42 l0 0).f1, (rd_T42 l0 0).f2, (rd_T42 l0 0).f3⟩ : S42) [.int .i64 ((rd_T42 l0 0).f0), .string ((rd_T42 l0 0).f1), .string ((rd_T42 l0 0).f2), .slice A328_3 ((rd_T42 l0 0).f3).length c328_3] from (k42_mkF _ _ (⟨(rd_T42 l0 0).f0, (rd_T42 l0 0).f1, (rd_T42 l0 0).f2, (rd_T42 l0 0).f3⟩ : S42) (Kd.V_reads' (Kd.V_mono (ok' := (fun k_ => (P0_ k_ ∨ w.heap.size ≤ k_) ∧ some k_ ≠ (u7 : Value).ownBlock ∧ some k_ ≠ (v320 : Value).ownBlock ∧ some k_ ≠ (v326 : Value).ownBlock)) (HL328_3.out) (fun k_ hk => ⟨hk.1.1, ⟨hk.1.2.1, ⟨hk.1.2.2, hk.2⟩⟩⟩))).2.1 (Kd.V_F (Kd.V_mono (ok' := (fun k_ => (P0_ k_ ∨ w.heap.size ≤ k_) ∧ some k_ ≠ (u7 : Value).ownBlock ∧ some k_ ≠ (v320 : Value).ownBlock ∧ some k_ ≠ (v326 : Value).ownBlock)) (HL328_3.out) (fun k_ hk => ⟨hk.1.1, ⟨hk.1.2.1, ⟨hk.1.2.2, hk.2⟩⟩⟩))))) (Reps.none _ _)))
                                  intro v330 w86 ho87 hb hg_ hnew_
                                  have HS0_ := (hb.cell (World.block_lt_of_cell? _ _ (hHeld.1))).trans (hHeld.1)
                                  have HS1_ := (hb.cell (World.block_lt_of_cell? _ _ (hHeld.2.1))).trans (hHeld.2.1)
                                  have HS2_ := (hb.cell (World.block_lt_of_cell? _ _ (hHeld.2.2.1))).trans (hHeld.2.2.1)
                                  have HS3_ := (hb.cell (World.block_lt_of_cell? _ _ (hHeld.2.2.2))).trans (hHeld.2.2.2)
                                  clear hg_ hnew_
                                  (first | rw [← Ny329.out] at ho87 | (simp only [Int.reduceToNat] at ho87; rw [← Ny329.out] at ho87))
                                  have n0_ := Aside0.mk (Kd.V_elder' (by (with_reducible repeat (first | apply Kd.V_alloc | apply Kd.V_drewN | apply Kd.V_drew)); exact HO_0.out) (Kd.N_base ho87) hb)
                                  have n1_ := Aside0.mk (Kd.N_elder' (by (with_reducible repeat (first | apply Kd.N_alloc | apply Kd.N_drewN | apply Kd.N_drew)); exact HO_7.out) (Kd.N_base ho87) hb)
                                  have n2_ := Aside0.mk (Kd.R_below (by (with_reducible repeat (first | apply Kd.R_alloc | apply Kd.R_drewN | apply Kd.R_drew)); exact HO321.out) hb)
                                  have n3_ := Aside0.mk (Kd.V_elder' (by (with_reducible repeat (first | apply Kd.V_alloc | apply Kd.V_drewN | apply Kd.V_drew)); exact HL328_3.out) (Kd.N_base ho87) hb)
                                  have n4_ := Aside0.mk (Kd.N_elder' (by (with_reducible repeat (first | apply Kd.N_alloc | apply Kd.N_drewN | apply Kd.N_drew)); exact HO327.out) (Kd.N_base ho87) hb)
                                  have n5_ := Aside0.mk (Kd.N_lower ho87 (below_size (by repeat (first | (with_reducible first | exact HB.out | apply below_alloc | apply pw_below_drewN | apply below_drew1) | exact HB.out))))
                                  have n6_ := Aside0.mk (below_step (by repeat (first | (with_reducible first | exact HB.out | apply below_alloc | apply pw_below_drewN | apply below_drew1) | exact HB.out)) hb)
                                  clear HO_0
                                  clear HO_7
                                  clear HO321
                                  clear HL328_3
                                  clear HO327
                                  clear HB
                                  have HO_0 := n0_
                                  have HO_7 := n1_
                                  have HO321 := n2_
                                  have HL328_3 := n3_
                                  have HO327 := n4_
                                  have HO331 := n5_
                                  have HB := n6_
                                  clear n0_ n1_ n2_ n3_ n4_ n5_ n6_
                                  clear hb ho87
                                  refine hK.out _ _ ⟨HS0_, HS1_, HS2_, HS3_⟩ (fun hHeld => ?_)
                                  clear hK K
                                  refine norm_ (a' := ?_) ?_ ?_
                                  rotate_left
                                  · show Act.put _ (some 57) _ = _
                                    simp only [Act.put, List.setIfInBounds_toArray, List.set_cons_zero, List.set_cons_succ, i64_w, i32_w]
                                    rfl
                                  exact norm_ (by simp only [putAll, Act.put, List.setIfInBounds_toArray, List.set_cons_zero, List.set_cons_succ]) (hCont (v323, v326, v330) _ ⟨hHeld, (by (with_reducible repeat (first | apply Kd.V_alloc | apply Kd.V_drewN | apply Kd.V_drew)); exact Kd.V_mono HL328_3.out (fun _ hk => ⟨hk.1.1.1, ⟨hk.1.1.2.2, ⟨hk.1.2, ⟨hk.2, hk.1.1.2.1⟩⟩⟩⟩)), (by (with_reducible repeat (first | apply Kd.R_alloc | apply Kd.R_drewN | apply Kd.R_drew)); exact Kd.R_mono HO321.out (fun _ hk => hk.1)), (by (with_reducible repeat (first | apply Kd.N_alloc | apply Kd.N_drewN | apply Kd.N_drew)); exact Kd.N_mono HO327.out (fun _ hk => ⟨hk.1.1, ⟨hk.1.2.2, ⟨hk.2, hk.1.2.1⟩⟩⟩)), (by (with_reducible repeat (first | apply Kd.N_alloc | apply Kd.N_drewN | apply Kd.N_drew)); exact Kd.N_mono HO331.out (fun _ hk => ⟨hk.1, ⟨hk.2.2.1, ⟨hk.2.2.2, hk.2.1⟩⟩⟩)), (by (with_reducible repeat (first | apply Kd.V_alloc | apply Kd.V_drewN | apply Kd.V_drew)); exact Kd.V_mono HO_0.out (fun _ hk => ⟨hk.1.1.1, ⟨hk.1.1.2.2, ⟨hk.1.2, ⟨hk.2, hk.1.1.2.1⟩⟩⟩⟩)), (by (with_reducible repeat (first | apply Kd.N_alloc | apply Kd.N_drewN | apply Kd.N_drew)); exact Kd.N_mono HO_7.out (fun _ hk => ⟨hk.1.1.1, ⟨hk.1.1.2, ⟨hk.1.2, hk.2⟩⟩⟩)), (by repeat (first | (with_reducible first | exact HB.out | apply below_alloc | apply pw_below_drewN | apply below_drew1) | exact HB.out))⟩)
                                · skip
                                  refine Kd.N_lit_step k42 _ 42 ?hg (N' := 57) ?hd (xs := ([(⟨(rd_T42 l0 0).f0, (rd_T42 l0 0).f1, (rd_T42 l0 0).f2, (rd_T42 l0 0).f3⟩ : S42)] : List (S42))) (inner := [.int .i64 ((rd_T42 l0 0).f0), .string ((rd_T42 l0 0).f1), .string ((rd_T42 l0 0).f2), .slice A328_3 ((rd_T42 l0 0).f3).length c328_3]) (ok := (fun k_ => (P0_ k_ ∨ w.heap.size ≤ k_) ∧ some k_ ≠ (u7 : Value).ownBlock ∧ some k_ ≠ (v320 : Value).ownBlock ∧ some k_ ≠ (v323 : Value).ownBlock)) (okp := (fun k_ => (P0_ k_ ∨ w.heap.size ≤ k_) ∧ some k_ ≠ (u7 : Value).ownBlock ∧ some k_ ≠ (v320 : Value).ownBlock ∧ some k_ ≠ (v323 : Value).ownBlock)) ?hr ?hp (fun _ hk => hk) ((show ∀ k_, w83.heap.size ≤ k_ → (fun k_ => (P0_ k_ ∨ w.heap.size ≤ k_) ∧ some k_ ≠ (u7 : Value).ownBlock ∧ some k_ ≠ (v320 : Value).ownBlock ∧ some k_ ≠ (v323 : Value).ownBlock) k_ from fun k_ hk => ⟨(.inr (Nat.le_trans (below_size (by repeat (first | (with_reducible first | exact HB.out | apply below_alloc | apply pw_below_drewN | apply below_drew1) | exact HB.out))) hk)), Kd.fresh' (Kd.N_lt (by (with_reducible repeat (first | apply Kd.N_alloc | apply Kd.N_drewN | apply Kd.N_drew)); exact HO_7.out)) k_ hk, Kd.fresh' (Kd.R_lt (by (with_reducible repeat (first | apply Kd.R_alloc | apply Kd.R_drewN | apply Kd.R_drew)); exact HO321.out)) k_ hk, Kd.fresh' (Kd.N_lt (by (with_reducible repeat (first | apply Kd.N_alloc | apply Kd.N_drewN | apply Kd.N_drew)); exact HO324.out)) k_ hk⟩) _ (Nat.le_refl _)) (Below.refl _ _) (Nat.le_refl _) (by simp) ?_; (case hd => rfl); (case hg => rfl); (case hr => first | (go_simp; done) | (go_simp; rfl)); (case hp => exact (Reps.c4 (show Kd.FK k42 _ _ (⟨(rd_T42 l0 0).f0, (rd_T42 l0 0).f1, (rd_T42 l0 0).f2, (rd_T42 l0 0).f3⟩ : S42) [.int .i64 ((rd_T42 l0 0).f0), .string ((rd_T42 l0 0).f1), .string ((rd_T42 l0 0).f2), .slice A328_3 ((rd_T42 l0 0).f3).length c328_3] from (k42_mkF _ _ (⟨(rd_T42 l0 0).f0, (rd_T42 l0 0).f1, (rd_T42 l0 0).f2, (rd_T42 l0 0).f3⟩ : S42) (Kd.V_reads' (Kd.V_mono (ok' := (fun k_ => (P0_ k_ ∨ w.heap.size ≤ k_) ∧ some k_ ≠ (u7 : Value).ownBlock ∧ some k_ ≠ (v320 : Value).ownBlock ∧ some k_ ≠ (v323 : Value).ownBlock)) (HL328_3.out) (fun k_ hk => ⟨hk.1.1.1, ⟨hk.1.1.2, ⟨hk.1.2, hk.2⟩⟩⟩))).2.1 (Kd.V_F (Kd.V_mono (ok' := (fun k_ => (P0_ k_ ∨ w.heap.size ≤ k_) ∧ some k_ ≠ (u7 : Value).ownBlock ∧ some k_ ≠ (v320 : Value).ownBlock ∧ some k_ ≠ (v323 : Value).ownBlock)) (HL328_3.out) (fun k_ hk => ⟨hk.1.1.1, ⟨hk.1.1.2, ⟨hk.1.2, hk.2⟩⟩⟩))))) (Reps.none _ _)))
                                  intro v330 w85 ho86 hb hg_ hnew_
                                  have HS0_ := (hb.cell (World.block_lt_of_cell? _ _ (hHeld.1))).trans (hHeld.1)
                                  have HS1_ := (hb.cell (World.block_lt_of_cell? _ _ (hHeld.2.1))).trans (hHeld.2.1)
                                  have HS2_ := (hb.cell (World.block_lt_of_cell? _ _ (hHeld.2.2.1))).trans (hHeld.2.2.1)
                                  have HS3_ := (hb.cell (World.block_lt_of_cell? _ _ (hHeld.2.2.2))).trans (hHeld.2.2.2)
                                  clear hg_ hnew_
                                  (first | rw [← Ny329.out] at ho86 | (simp only [Int.reduceToNat] at ho86; rw [← Ny329.out] at ho86))
                                  have n0_ := Aside0.mk (Kd.V_elder' (by (with_reducible repeat (first | apply Kd.V_alloc | apply Kd.V_drewN | apply Kd.V_drew)); exact HO_0.out) (Kd.N_base ho86) hb)
                                  have n1_ := Aside0.mk (Kd.N_elder' (by (with_reducible repeat (first | apply Kd.N_alloc | apply Kd.N_drewN | apply Kd.N_drew)); exact HO_7.out) (Kd.N_base ho86) hb)
                                  have n2_ := Aside0.mk (Kd.R_below (by (with_reducible repeat (first | apply Kd.R_alloc | apply Kd.R_drewN | apply Kd.R_drew)); exact HO321.out) hb)
                                  have n3_ := Aside0.mk (Kd.V_elder' (by (with_reducible repeat (first | apply Kd.V_alloc | apply Kd.V_drewN | apply Kd.V_drew)); exact HL328_3.out) (Kd.N_base ho86) hb)
                                  have n4_ := Aside0.mk (Kd.N_elder' (by (with_reducible repeat (first | apply Kd.N_alloc | apply Kd.N_drewN | apply Kd.N_drew)); exact HO324.out) (Kd.N_base ho86) hb)
                                  have n5_ := Aside0.mk (Kd.N_lower ho86 (below_size (by repeat (first | (with_reducible first | exact HB.out | apply below_alloc | apply pw_below_drewN | apply below_drew1) | exact HB.out))))
                                  have n6_ := Aside0.mk (Kd.C_below (by repeat (first | (with_reducible exact HR328_3.out) | (with_reducible refine Kd.C_alloc ?_ _) | (with_reducible refine Kd.C_drewN ?_ _) | (with_reducible refine Kd.C_drew ?_) | exact HR328_3.out)) hb)
                                  have n7_ := Aside0.mk (below_step (by repeat (first | (with_reducible first | exact HB.out | apply below_alloc | apply pw_below_drewN | apply below_drew1) | exact HB.out)) hb)
                                  clear HO_0
                                  clear HO_7
                                  clear HO321
                                  clear HL328_3
                                  clear HO324
                                  clear HR328_3
                                  clear HB
                                  have HO_0 := n0_
                                  have HO_7 := n1_
                                  have HO321 := n2_
                                  have HL328_3 := n3_
                                  have HO324 := n4_
                                  have HO331 := n5_
                                  have HR328_3 := n6_
                                  have HB := n7_
                                  clear n0_ n1_ n2_ n3_ n4_ n5_ n6_ n7_
                                  clear hb ho86
                                  refine hK.out _ _ ⟨HS0_, HS1_, HS2_, HS3_⟩ (fun hHeld => ?_)
                                  clear hK K
                                  refine norm_ (a' := ?_) ?_ ?_
                                  rotate_left
                                  · show Act.put _ (some 57) _ = _
                                    simp only [Act.put, List.setIfInBounds_toArray, List.set_cons_zero, List.set_cons_succ, i64_w, i32_w]
                                    rfl
                                  refine one_ (i := 2) (N := some 53) #[true, true, true, true, true, true, true, false, false] rfl rfl (one_of HT_.out (by kernel_rfl)) (by decide) (fun K hK => ?_)
                                  refine Kd.N_append_rows_step k42 (w0 := w) w.heap.size (by rfl) (.tmp 51) (.tmp 52) 22 42 (.agg #[(.int .i64 0), (.string ⟨#[]⟩), (.string ⟨#[]⟩), (.slice none 0 0)]) 64 rfl Try.underlying22 info42 rfl (by decide) (by omega) v323 y322 l0 _ _ _ (fun k_ => (P0_ k_ ∨ w.heap.size ≤ k_) ∧ some k_ ≠ (u7 : Value).ownBlock ∧ some k_ ≠ (v320 : Value).ownBlock ∧ some k_ ≠ (v330 : Value).ownBlock) (fun k_ => ((fun k_ => (P0_ k_ ∨ w.heap.size ≤ k_) ∧ some k_ ≠ (u7 : Value).ownBlock ∧ some k_ ≠ (v320 : Value).ownBlock ∧ some k_ ≠ (v330 : Value).ownBlock)) k_ ∧ some k_ ≠ (v323 : Value).ownBlock) rfl rfl ?aO ?aR (fun _ hk => hk) ?aF ?aB ?aS ?aL ?_
                                  (case aR => exact (by skip; exact Kd.V_F (Kd.V_mono (ok' := (fun k_ => ((fun k_ => (P0_ k_ ∨ w.heap.size ≤ k_) ∧ some k_ ≠ (u7 : Value).ownBlock ∧ some k_ ≠ (v320 : Value).ownBlock ∧ some k_ ≠ (v330 : Value).ownBlock)) k_ ∧ some k_ ≠ (v323 : Value).ownBlock)) (HO_0.out) (fun k_ hk => ⟨⟨hk.1.1.1.1, ⟨hk.1.1.1.2, ⟨hk.1.1.2, hk.2⟩⟩⟩, hk.1.2⟩))))
                                  (case aB => exact (by repeat (first | (with_reducible first | exact HB.out | apply below_alloc | apply pw_below_drewN | apply below_drew1) | exact HB.out)))
                                  (case aF => exact (fun k_ hk => ⟨(.inr (Nat.le_trans (below_size (by repeat (first | (with_reducible first | exact HB.out | apply below_alloc | apply pw_below_drewN | apply below_drew1) | exact HB.out))) hk)), Kd.fresh' (Kd.N_lt (by (with_reducible repeat (first | apply Kd.N_alloc | apply Kd.N_drewN | apply Kd.N_drew)); exact HO_7.out)) k_ hk, Kd.fresh' (Kd.R_lt (by (with_reducible repeat (first | apply Kd.R_alloc | apply Kd.R_drewN | apply Kd.R_drew)); exact HO321.out)) k_ hk, Kd.fresh' (Kd.N_lt (by (with_reducible repeat (first | apply Kd.N_alloc | apply Kd.N_drewN | apply Kd.N_drew)); exact HO331.out)) k_ hk⟩))
                                  (case aO => exact (by (with_reducible repeat (first | apply Kd.N_alloc | apply Kd.N_drewN | apply Kd.N_drew)); exact Kd.N_mono HO324.out (fun _ hk => ⟨hk.1.1, ⟨hk.1.2.1, ⟨hk.1.2.2, hk.2⟩⟩⟩)))
                                  (case aS => exact (below_size (by repeat (first | (with_reducible first | exact HB.out | apply below_alloc | apply pw_below_drewN | apply below_drew1) | exact HB.out))))
                                  (case aL => have := LMc30.out; omega)
                                  intro v326 w87 ho hb hg hat
                                  have HS0_ := cell_grown hg (hHeld.1) (by have hk_ := Go.Proofs.YtnpipaehcklnbaaW.Fb.V_ok HO_0.out (by decide) (by have h_ : (0 : Int) < (l0.length : Int) := (by first | (exact of_decide_eq_true (by first | (with_reducible assumption) | assumption)) | omega); omega); first | exact hk_.2 | exact hk_.2.2 | exact hk_.2.1 | exact hk_.1.2 | exact hk_.2.2.1 | exact hk_.2.2.2 | exact hk_.1.2.2 | exact hk_.1.2.1 | exact hk_.2.1.2 | exact hk_.2.1.1)
                                  have HS1_ := cell_grown hg (hHeld.2.1) (by have hk_ := Go.Proofs.YtnpipaehcklnbaaW.Fb.V_ok HO_0.out (by decide) (by have h_ : (0 : Int) < (l0.length : Int) := (by first | (exact of_decide_eq_true (by first | (with_reducible assumption) | assumption)) | omega); omega); first | exact hk_.2 | exact hk_.2.2 | exact hk_.2.1 | exact hk_.1.2 | exact hk_.2.2.1 | exact hk_.2.2.2 | exact hk_.1.2.2 | exact hk_.1.2.1 | exact hk_.2.1.2 | exact hk_.2.1.1)
                                  have HS2_ := cell_grown hg (hHeld.2.2.1) (by have hk_ := Go.Proofs.YtnpipaehcklnbaaW.Fb.V_ok HO_0.out (by decide) (by have h_ : (0 : Int) < (l0.length : Int) := (by first | (exact of_decide_eq_true (by first | (with_reducible assumption) | assumption)) | omega); omega); first | exact hk_.2 | exact hk_.2.2 | exact hk_.2.1 | exact hk_.1.2 | exact hk_.2.2.1 | exact hk_.2.2.2 | exact hk_.1.2.2 | exact hk_.1.2.1 | exact hk_.2.1.2 | exact hk_.2.1.1)
                                  have HS3_ := cell_grown hg (hHeld.2.2.2) (by have hk_ := Go.Proofs.YtnpipaehcklnbaaW.Fb.V_ok HO_0.out (by decide) (by have h_ : (0 : Int) < (l0.length : Int) := (by first | (exact of_decide_eq_true (by first | (with_reducible assumption) | assumption)) | omega); omega); first | exact hk_.2 | exact hk_.2.2 | exact hk_.2.1 | exact hk_.1.2 | exact hk_.2.2.1 | exact hk_.2.2.2 | exact hk_.1.2.2 | exact hk_.1.2.1 | exact hk_.2.1.2 | exact hk_.2.1.1)
                                  rw [← Ny325.out] at ho
                                  have n0_ := Aside0.mk (Kd.V_afterv (ok := (fun k_ => (P0_ k_ ∨ w.heap.size ≤ k_) ∧ some k_ ≠ (u7 : Value).ownBlock ∧ some k_ ≠ (v320 : Value).ownBlock ∧ some k_ ≠ (v330 : Value).ownBlock)) (by (with_reducible repeat (first | apply Kd.V_alloc | apply Kd.V_drewN | apply Kd.V_drew)); exact Kd.V_mono HO_0.out (fun _ hk => ⟨⟨hk.1.1.1.1, ⟨hk.1.1.1.2, ⟨hk.1.1.2, hk.2⟩⟩⟩, hk.1.2⟩)) hg hat)
                                  have n1_ := Aside0.mk (Kd.N_afterv (ok := (fun k_ => (P0_ k_ ∨ w.heap.size ≤ k_) ∧ some k_ ≠ (v320 : Value).ownBlock ∧ some k_ ≠ (v330 : Value).ownBlock)) (by (with_reducible repeat (first | apply Kd.N_alloc | apply Kd.N_drewN | apply Kd.N_drew)); exact Kd.N_mono HO_7.out (fun _ hk => ⟨⟨hk.1.1.1, ⟨hk.1.1.2, hk.2⟩⟩, hk.1.2⟩)) hg hat)
                                  have n2_ := Aside0.mk (Kd.R_over' (by (with_reducible repeat (first | apply Kd.R_alloc | apply Kd.R_drewN | apply Kd.R_drew)); exact HO321.out) (Kd.N_typed (by (with_reducible repeat (first | apply Kd.N_alloc | apply Kd.N_drewN | apply Kd.N_drew)); exact HO324.out)) (by decide) hg)
                                  have n3_ := Aside0.mk (Kd.V_afterv (ok := (fun k_ => (P0_ k_ ∨ w.heap.size ≤ k_) ∧ some k_ ≠ (u7 : Value).ownBlock ∧ some k_ ≠ (v320 : Value).ownBlock ∧ some k_ ≠ (v330 : Value).ownBlock)) (by (with_reducible repeat (first | apply Kd.V_alloc | apply Kd.V_drewN | apply Kd.V_drew)); exact Kd.V_mono HL328_3.out (fun _ hk => ⟨⟨hk.1.1.1.1, ⟨hk.1.1.1.2, ⟨hk.1.1.2, hk.2⟩⟩⟩, hk.1.2⟩)) hg hat)
                                  have n4_ := Aside0.mk (Kd.N_afterv (ok := (fun k_ => (P0_ k_ ∨ w.heap.size ≤ k_) ∧ some k_ ≠ (u7 : Value).ownBlock ∧ some k_ ≠ (v320 : Value).ownBlock)) (by (with_reducible repeat (first | apply Kd.N_alloc | apply Kd.N_drewN | apply Kd.N_drew)); exact Kd.N_mono HO331.out (fun _ hk => ⟨⟨hk.1, ⟨hk.2.1, hk.2.2.1⟩⟩, hk.2.2.2⟩)) hg hat)
                                  have n5_ := Aside0.mk (hb)
                                  have n6_ := Aside0.mk (ho)
                                  clear HO_0
                                  clear HO_7
                                  clear HO321
                                  clear HL328_3
                                  clear HO331
                                  clear HB
                                  clear HO324
                                  have HO_0 := n0_
                                  have HO_7 := n1_
                                  have HO321 := n2_
                                  have HL328_3 := n3_
                                  have HO331 := n4_
                                  have HB := n5_
                                  have HO327 := n6_
                                  clear n0_ n1_ n2_ n3_ n4_ n5_ n6_
                                  clear ho hb hg hat
                                  refine hK.out _ _ ⟨HS0_, HS1_, HS2_, HS3_⟩ (fun hHeld => ?_)
                                  clear hK K
                                  refine norm_ (a' := ?_) ?_ ?_
                                  rotate_left
                                  · show Act.put _ (some 53) _ = _
                                    simp only [Act.put, List.setIfInBounds_toArray, List.set_cons_zero, List.set_cons_succ, i64_w, i32_w]
                                    rfl
                                  exact norm_ (by simp only [putAll, Act.put, List.setIfInBounds_toArray, List.set_cons_zero, List.set_cons_succ]) (hCont (v323, v326, v330) _ ⟨hHeld, (by (with_reducible repeat (first | apply Kd.V_alloc | apply Kd.V_drewN | apply Kd.V_drew)); exact Kd.V_mono HL328_3.out (fun _ hk => ⟨hk.1.1, ⟨hk.1.2.2.1, ⟨hk.2, ⟨hk.1.2.2.2, hk.1.2.1⟩⟩⟩⟩)), (by (with_reducible repeat (first | apply Kd.R_alloc | apply Kd.R_drewN | apply Kd.R_drew)); exact Kd.R_mono HO321.out (fun _ hk => hk.1)), (by (with_reducible repeat (first | apply Kd.N_alloc | apply Kd.N_drewN | apply Kd.N_drew)); exact Kd.N_mono HO327.out (fun _ hk => ⟨hk.1, ⟨hk.2.2.1, ⟨hk.2.2.2, hk.2.1⟩⟩⟩)), (by (with_reducible repeat (first | apply Kd.N_alloc | apply Kd.N_drewN | apply Kd.N_drew)); exact Kd.N_mono HO331.out (fun _ hk => ⟨hk.1.1, ⟨hk.1.2.2, ⟨hk.2, hk.1.2.1⟩⟩⟩)), (by (with_reducible repeat (first | apply Kd.V_alloc | apply Kd.V_drewN | apply Kd.V_drew)); exact Kd.V_mono HO_0.out (fun _ hk => ⟨hk.1.1, ⟨hk.1.2.2.1, ⟨hk.2, ⟨hk.1.2.2.2, hk.1.2.1⟩⟩⟩⟩)), (by (with_reducible repeat (first | apply Kd.N_alloc | apply Kd.N_drewN | apply Kd.N_drew)); exact Kd.N_mono HO_7.out (fun _ hk => ⟨hk.1.1, ⟨hk.1.2.1, ⟨hk.2, hk.1.2.2⟩⟩⟩)), (by repeat (first | (with_reducible first | exact HB.out | apply below_alloc | apply pw_below_drewN | apply below_drew1) | exact HB.out))⟩)
                              · skip
                                refine Kd.N_lit_step k42 _ 42 ?hg (N' := 57) ?hd (xs := ([(⟨(rd_T42 l0 0).f0, (rd_T42 l0 0).f1, (rd_T42 l0 0).f2, (rd_T42 l0 0).f3⟩ : S42)] : List (S42))) (inner := [.int .i64 ((rd_T42 l0 0).f0), .string ((rd_T42 l0 0).f1), .string ((rd_T42 l0 0).f2), .slice A328_3 ((rd_T42 l0 0).f3).length c328_3]) (ok := (fun k_ => (P0_ k_ ∨ w.heap.size ≤ k_) ∧ some k_ ≠ (u7 : Value).ownBlock ∧ some k_ ≠ (v320 : Value).ownBlock)) (okp := (fun k_ => (P0_ k_ ∨ w.heap.size ≤ k_) ∧ some k_ ≠ (u7 : Value).ownBlock ∧ some k_ ≠ (v320 : Value).ownBlock)) ?hr ?hp (fun _ hk => hk) ((show ∀ k_, w82.heap.size ≤ k_ → (fun k_ => (P0_ k_ ∨ w.heap.size ≤ k_) ∧ some k_ ≠ (u7 : Value).ownBlock ∧ some k_ ≠ (v320 : Value).ownBlock) k_ from fun k_ hk => ⟨(.inr (Nat.le_trans (below_size (by repeat (first | (with_reducible first | exact HB.out | apply below_alloc | apply pw_below_drewN | apply below_drew1) | exact HB.out))) hk)), Kd.fresh' (Kd.N_lt (by (with_reducible repeat (first | apply Kd.N_alloc | apply Kd.N_drewN | apply Kd.N_drew)); exact HO_7.out)) k_ hk, Kd.fresh' (Kd.R_lt (by (with_reducible repeat (first | apply Kd.R_alloc | apply Kd.R_drewN | apply Kd.R_drew)); exact HO321.out)) k_ hk⟩) _ (Nat.le_refl _)) (Below.refl _ _) (Nat.le_refl _) (by simp) ?_; (case hd => rfl); (case hg => rfl); (case hr => first | (go_simp; done) | (go_simp; rfl)); (case hp => exact (Reps.c4 (show Kd.FK k42 _ _ (⟨(rd_T42 l0 0).f0, (rd_T42 l0 0).f1, (rd_T42 l0 0).f2, (rd_T42 l0 0).f3⟩ : S42) [.int .i64 ((rd_T42 l0 0).f0), .string ((rd_T42 l0 0).f1), .string ((rd_T42 l0 0).f2), .slice A328_3 ((rd_T42 l0 0).f3).length c328_3] from (k42_mkF _ _ (⟨(rd_T42 l0 0).f0, (rd_T42 l0 0).f1, (rd_T42 l0 0).f2, (rd_T42 l0 0).f3⟩ : S42) (Kd.V_reads' (Kd.V_mono (ok' := (fun k_ => (P0_ k_ ∨ w.heap.size ≤ k_) ∧ some k_ ≠ (u7 : Value).ownBlock ∧ some k_ ≠ (v320 : Value).ownBlock)) (HL328_3.out) (fun k_ hk => ⟨hk.1.1, ⟨hk.1.2, hk.2⟩⟩))).2.1 (Kd.V_F (Kd.V_mono (ok' := (fun k_ => (P0_ k_ ∨ w.heap.size ≤ k_) ∧ some k_ ≠ (u7 : Value).ownBlock ∧ some k_ ≠ (v320 : Value).ownBlock)) (HL328_3.out) (fun k_ hk => ⟨hk.1.1, ⟨hk.1.2, hk.2⟩⟩))))) (Reps.none _ _)))
                                intro v330 w83 ho84 hb hg_ hnew_
                                have HS0_ := (hb.cell (World.block_lt_of_cell? _ _ (hHeld.1))).trans (hHeld.1)
                                have HS1_ := (hb.cell (World.block_lt_of_cell? _ _ (hHeld.2.1))).trans (hHeld.2.1)
                                have HS2_ := (hb.cell (World.block_lt_of_cell? _ _ (hHeld.2.2.1))).trans (hHeld.2.2.1)
                                have HS3_ := (hb.cell (World.block_lt_of_cell? _ _ (hHeld.2.2.2))).trans (hHeld.2.2.2)
                                clear hg_ hnew_
                                (first | rw [← Ny329.out] at ho84 | (simp only [Int.reduceToNat] at ho84; rw [← Ny329.out] at ho84))
                                have n0_ := Aside0.mk (Kd.V_elder' (by (with_reducible repeat (first | apply Kd.V_alloc | apply Kd.V_drewN | apply Kd.V_drew)); exact HO_0.out) (Kd.N_base ho84) hb)
                                have n1_ := Aside0.mk (Kd.N_elder' (by (with_reducible repeat (first | apply Kd.N_alloc | apply Kd.N_drewN | apply Kd.N_drew)); exact HO_7.out) (Kd.N_base ho84) hb)
                                have n2_ := Aside0.mk (Kd.R_below (by (with_reducible repeat (first | apply Kd.R_alloc | apply Kd.R_drewN | apply Kd.R_drew)); exact HO321.out) hb)
                                have n3_ := Aside0.mk (Kd.V_elder' (by (with_reducible repeat (first | apply Kd.V_alloc | apply Kd.V_drewN | apply Kd.V_drew)); exact HL328_3.out) (Kd.N_base ho84) hb)
                                have n4_ := Aside0.mk (Kd.N_lower ho84 (below_size (by repeat (first | (with_reducible first | exact HB.out | apply below_alloc | apply pw_below_drewN | apply below_drew1) | exact HB.out))))
                                have n5_ := Aside0.mk (Kd.C_below (by repeat (first | (with_reducible exact HR328_3.out) | (with_reducible refine Kd.C_alloc ?_ _) | (with_reducible refine Kd.C_drewN ?_ _) | (with_reducible refine Kd.C_drew ?_) | exact HR328_3.out)) hb)
                                have n6_ := Aside0.mk (below_step (by repeat (first | (with_reducible first | exact HB.out | apply below_alloc | apply pw_below_drewN | apply below_drew1) | exact HB.out)) hb)
                                clear HO_0
                                clear HO_7
                                clear HO321
                                clear HL328_3
                                clear HR328_3
                                clear HB
                                have HO_0 := n0_
                                have HO_7 := n1_
                                have HO321 := n2_
                                have HL328_3 := n3_
                                have HO331 := n4_
                                have HR328_3 := n5_
                                have HB := n6_
                                clear n0_ n1_ n2_ n3_ n4_ n5_ n6_
                                clear hb ho84
                                refine hK.out _ _ ⟨HS0_, HS1_, HS2_, HS3_⟩ (fun hHeld => ?_)
                                clear hK K
                                refine norm_ (a' := ?_) ?_ ?_
                                rotate_left
                                · show Act.put _ (some 57) _ = _
                                  simp only [Act.put, List.setIfInBounds_toArray, List.set_cons_zero, List.set_cons_succ, i64_w, i32_w]
                                  rfl
                                refine one_ (i := 0) (N := some 51) #[true, true, false, true, true, true, true, false, false] rfl rfl (one_of HT_.out (by kernel_rfl)) (by decide) (fun K hK => ?_)
                                refine Kd.N_lit_step k42 _ 42 ?hg (N' := 51) ?hd (xs := ([] : List (S42))) (inner := []) (ok := (fun k_ => (P0_ k_ ∨ w.heap.size ≤ k_) ∧ some k_ ≠ (u7 : Value).ownBlock ∧ some k_ ≠ (v320 : Value).ownBlock ∧ some k_ ≠ (v330 : Value).ownBlock)) (okp := (fun k_ => (P0_ k_ ∨ w.heap.size ≤ k_) ∧ some k_ ≠ (u7 : Value).ownBlock ∧ some k_ ≠ (v320 : Value).ownBlock ∧ some k_ ≠ (v330 : Value).ownBlock)) ?hr ?hp (fun _ hk => hk) ((show ∀ k_, w83.heap.size ≤ k_ → (fun k_ => (P0_ k_ ∨ w.heap.size ≤ k_) ∧ some k_ ≠ (u7 : Value).ownBlock ∧ some k_ ≠ (v320 : Value).ownBlock ∧ some k_ ≠ (v330 : Value).ownBlock) k_ from fun k_ hk => ⟨(.inr (Nat.le_trans (below_size (by repeat (first | (with_reducible first | exact HB.out | apply below_alloc | apply pw_below_drewN | apply below_drew1) | exact HB.out))) hk)), Kd.fresh' (Kd.N_lt (by (with_reducible repeat (first | apply Kd.N_alloc | apply Kd.N_drewN | apply Kd.N_drew)); exact HO_7.out)) k_ hk, Kd.fresh' (Kd.R_lt (by (with_reducible repeat (first | apply Kd.R_alloc | apply Kd.R_drewN | apply Kd.R_drew)); exact HO321.out)) k_ hk, Kd.fresh' (Kd.N_lt (by (with_reducible repeat (first | apply Kd.N_alloc | apply Kd.N_drewN | apply Kd.N_drew)); exact HO331.out)) k_ hk⟩) _ (Nat.le_refl _)) (Below.refl _ _) (Nat.le_refl _) (by simp) ?_; (case hd => rfl); (case hg => rfl); (case hr => first | (go_simp; done) | (go_simp; rfl)); (case hp => exact (Reps.none _ _))
                                intro v323 w85 ho86 hb hg_ hnew_
                                have HS0_ := (hb.cell (World.block_lt_of_cell? _ _ (hHeld.1))).trans (hHeld.1)
                                have HS1_ := (hb.cell (World.block_lt_of_cell? _ _ (hHeld.2.1))).trans (hHeld.2.1)
                                have HS2_ := (hb.cell (World.block_lt_of_cell? _ _ (hHeld.2.2.1))).trans (hHeld.2.2.1)
                                have HS3_ := (hb.cell (World.block_lt_of_cell? _ _ (hHeld.2.2.2))).trans (hHeld.2.2.2)
                                clear hg_ hnew_
                                (first | rw [← Ny322.out] at ho86 | (simp only [Int.reduceToNat] at ho86; rw [← Ny322.out] at ho86))
                                have n0_ := Aside0.mk (Kd.V_elder' (by (with_reducible repeat (first | apply Kd.V_alloc | apply Kd.V_drewN | apply Kd.V_drew)); exact HO_0.out) (Kd.N_base ho86) hb)
                                have n1_ := Aside0.mk (Kd.N_elder' (by (with_reducible repeat (first | apply Kd.N_alloc | apply Kd.N_drewN | apply Kd.N_drew)); exact HO_7.out) (Kd.N_base ho86) hb)
                                have n2_ := Aside0.mk (Kd.R_below (by (with_reducible repeat (first | apply Kd.R_alloc | apply Kd.R_drewN | apply Kd.R_drew)); exact HO321.out) hb)
                                have n3_ := Aside0.mk (Kd.V_elder' (by (with_reducible repeat (first | apply Kd.V_alloc | apply Kd.V_drewN | apply Kd.V_drew)); exact HL328_3.out) (Kd.N_base ho86) hb)
                                have n4_ := Aside0.mk (Kd.N_elder' (by (with_reducible repeat (first | apply Kd.N_alloc | apply Kd.N_drewN | apply Kd.N_drew)); exact HO331.out) (Kd.N_base ho86) hb)
                                have n5_ := Aside0.mk (Kd.N_lower ho86 (below_size (by repeat (first | (with_reducible first | exact HB.out | apply below_alloc | apply pw_below_drewN | apply below_drew1) | exact HB.out))))
                                have n6_ := Aside0.mk (Kd.C_below (by repeat (first | (with_reducible exact HR328_3.out) | (with_reducible refine Kd.C_alloc ?_ _) | (with_reducible refine Kd.C_drewN ?_ _) | (with_reducible refine Kd.C_drew ?_) | exact HR328_3.out)) hb)
                                have n7_ := Aside0.mk (below_step (by repeat (first | (with_reducible first | exact HB.out | apply below_alloc | apply pw_below_drewN | apply below_drew1) | exact HB.out)) hb)
                                clear HO_0
                                clear HO_7
                                clear HO321
                                clear HL328_3
                                clear HO331
                                clear HR328_3
                                clear HB
                                have HO_0 := n0_
                                have HO_7 := n1_
                                have HO321 := n2_
                                have HL328_3 := n3_
                                have HO331 := n4_
                                have HO324 := n5_
                                have HR328_3 := n6_
                                have HB := n7_
                                clear n0_ n1_ n2_ n3_ n4_ n5_ n6_ n7_
                                clear hb ho86
                                refine hK.out _ _ ⟨HS0_, HS1_, HS2_, HS3_⟩ (fun hHeld => ?_)
                                clear hK K
                                refine norm_ (a' := ?_) ?_ ?_
                                rotate_left
                                · show Act.put _ (some 51) _ = _
                                  simp only [Act.put, List.setIfInBounds_toArray, List.set_cons_zero, List.set_cons_succ, i64_w, i32_w]
                                  rfl
                                refine one_ (i := 2) (N := some 53) #[true, true, true, true, true, true, true, false, false] rfl rfl (one_of HT_.out (by kernel_rfl)) (by decide) (fun K hK => ?_)
                                refine Kd.N_append_rows_step k42 (w0 := w) w.heap.size (by rfl) (.tmp 51) (.tmp 52) 22 42 (.agg #[(.int .i64 0), (.string ⟨#[]⟩), (.string ⟨#[]⟩), (.slice none 0 0)]) 64 rfl Try.underlying22 info42 rfl (by decide) (by omega) v323 y322 l0 _ _ _ (fun k_ => (P0_ k_ ∨ w.heap.size ≤ k_) ∧ some k_ ≠ (u7 : Value).ownBlock ∧ some k_ ≠ (v320 : Value).ownBlock ∧ some k_ ≠ (v330 : Value).ownBlock) (fun k_ => ((fun k_ => (P0_ k_ ∨ w.heap.size ≤ k_) ∧ some k_ ≠ (u7 : Value).ownBlock ∧ some k_ ≠ (v320 : Value).ownBlock ∧ some k_ ≠ (v330 : Value).ownBlock)) k_ ∧ some k_ ≠ (v323 : Value).ownBlock) rfl rfl ?aO ?aR (fun _ hk => hk) ?aF ?aB ?aS ?aL ?_
                                (case aR => exact (by skip; exact Kd.V_F (Kd.V_mono (ok' := (fun k_ => ((fun k_ => (P0_ k_ ∨ w.heap.size ≤ k_) ∧ some k_ ≠ (u7 : Value).ownBlock ∧ some k_ ≠ (v320 : Value).ownBlock ∧ some k_ ≠ (v330 : Value).ownBlock)) k_ ∧ some k_ ≠ (v323 : Value).ownBlock)) (HO_0.out) (fun k_ hk => ⟨⟨hk.1.1.1.1, ⟨hk.1.1.1.2, ⟨hk.1.1.2, hk.1.2⟩⟩⟩, hk.2⟩))))
                                (case aB => exact (by repeat (first | (with_reducible first | exact HB.out | apply below_alloc | apply pw_below_drewN | apply below_drew1) | exact HB.out)))
                                (case aF => exact (fun k_ hk => ⟨(.inr (Nat.le_trans (below_size (by repeat (first | (with_reducible first | exact HB.out | apply below_alloc | apply pw_below_drewN | apply below_drew1) | exact HB.out))) hk)), Kd.fresh' (Kd.N_lt (by (with_reducible repeat (first | apply Kd.N_alloc | apply Kd.N_drewN | apply Kd.N_drew)); exact HO_7.out)) k_ hk, Kd.fresh' (Kd.R_lt (by (with_reducible repeat (first | apply Kd.R_alloc | apply Kd.R_drewN | apply Kd.R_drew)); exact HO321.out)) k_ hk, Kd.fresh' (Kd.N_lt (by (with_reducible repeat (first | apply Kd.N_alloc | apply Kd.N_drewN | apply Kd.N_drew)); exact HO331.out)) k_ hk⟩))
                                (case aO => exact (by (with_reducible repeat (first | apply Kd.N_alloc | apply Kd.N_drewN | apply Kd.N_drew)); exact HO324.out))
                                (case aS => exact (below_size (by repeat (first | (with_reducible first | exact HB.out | apply below_alloc | apply pw_below_drewN | apply below_drew1) | exact HB.out))))
                                (case aL => have := LMc30.out; omega)
                                intro v326 w87 ho hb hg hat
                                have HS0_ := cell_grown hg (hHeld.1) (by have hk_ := Go.Proofs.YtnpipaehcklnbaaW.Fb.V_ok HO_0.out (by decide) (by have h_ : (0 : Int) < (l0.length : Int) := (by first | (exact of_decide_eq_true (by first | (with_reducible assumption) | assumption)) | omega); omega); first | exact hk_.2 | exact hk_.2.2 | exact hk_.2.1 | exact hk_.1.2 | exact hk_.2.2.1 | exact hk_.2.2.2 | exact hk_.1.2.2 | exact hk_.1.2.1 | exact hk_.2.1.2 | exact hk_.2.1.1)
                                have HS1_ := cell_grown hg (hHeld.2.1) (by have hk_ := Go.Proofs.YtnpipaehcklnbaaW.Fb.V_ok HO_0.out (by decide) (by have h_ : (0 : Int) < (l0.length : Int) := (by first | (exact of_decide_eq_true (by first | (with_reducible assumption) | assumption)) | omega); omega); first | exact hk_.2 | exact hk_.2.2 | exact hk_.2.1 | exact hk_.1.2 | exact hk_.2.2.1 | exact hk_.2.2.2 | exact hk_.1.2.2 | exact hk_.1.2.1 | exact hk_.2.1.2 | exact hk_.2.1.1)
                                have HS2_ := cell_grown hg (hHeld.2.2.1) (by have hk_ := Go.Proofs.YtnpipaehcklnbaaW.Fb.V_ok HO_0.out (by decide) (by have h_ : (0 : Int) < (l0.length : Int) := (by first | (exact of_decide_eq_true (by first | (with_reducible assumption) | assumption)) | omega); omega); first | exact hk_.2 | exact hk_.2.2 | exact hk_.2.1 | exact hk_.1.2 | exact hk_.2.2.1 | exact hk_.2.2.2 | exact hk_.1.2.2 | exact hk_.1.2.1 | exact hk_.2.1.2 | exact hk_.2.1.1)
                                have HS3_ := cell_grown hg (hHeld.2.2.2) (by have hk_ := Go.Proofs.YtnpipaehcklnbaaW.Fb.V_ok HO_0.out (by decide) (by have h_ : (0 : Int) < (l0.length : Int) := (by first | (exact of_decide_eq_true (by first | (with_reducible assumption) | assumption)) | omega); omega); first | exact hk_.2 | exact hk_.2.2 | exact hk_.2.1 | exact hk_.1.2 | exact hk_.2.2.1 | exact hk_.2.2.2 | exact hk_.1.2.2 | exact hk_.1.2.1 | exact hk_.2.1.2 | exact hk_.2.1.1)
                                rw [← Ny325.out] at ho
                                have n0_ := Aside0.mk (Kd.V_afterv (ok := (fun k_ => (P0_ k_ ∨ w.heap.size ≤ k_) ∧ some k_ ≠ (u7 : Value).ownBlock ∧ some k_ ≠ (v320 : Value).ownBlock ∧ some k_ ≠ (v330 : Value).ownBlock)) (by (with_reducible repeat (first | apply Kd.V_alloc | apply Kd.V_drewN | apply Kd.V_drew)); exact Kd.V_mono HO_0.out (fun _ hk => ⟨⟨hk.1.1.1.1, ⟨hk.1.1.1.2, ⟨hk.1.1.2, hk.1.2⟩⟩⟩, hk.2⟩)) hg hat)
                                have n1_ := Aside0.mk (Kd.N_afterv (ok := (fun k_ => (P0_ k_ ∨ w.heap.size ≤ k_) ∧ some k_ ≠ (v320 : Value).ownBlock ∧ some k_ ≠ (v330 : Value).ownBlock)) (by (with_reducible repeat (first | apply Kd.N_alloc | apply Kd.N_drewN | apply Kd.N_drew)); exact Kd.N_mono HO_7.out (fun _ hk => ⟨⟨hk.1.1.1, ⟨hk.1.1.2, hk.1.2⟩⟩, hk.2⟩)) hg hat)
                                have n2_ := Aside0.mk (Kd.R_over' (by (with_reducible repeat (first | apply Kd.R_alloc | apply Kd.R_drewN | apply Kd.R_drew)); exact HO321.out) (Kd.N_typed (by (with_reducible repeat (first | apply Kd.N_alloc | apply Kd.N_drewN | apply Kd.N_drew)); exact HO324.out)) (by decide) hg)
                                have n3_ := Aside0.mk (Kd.V_afterv (ok := (fun k_ => (P0_ k_ ∨ w.heap.size ≤ k_) ∧ some k_ ≠ (u7 : Value).ownBlock ∧ some k_ ≠ (v320 : Value).ownBlock ∧ some k_ ≠ (v330 : Value).ownBlock)) (by (with_reducible repeat (first | apply Kd.V_alloc | apply Kd.V_drewN | apply Kd.V_drew)); exact Kd.V_mono HL328_3.out (fun _ hk => ⟨⟨hk.1.1.1.1, ⟨hk.1.1.1.2, ⟨hk.1.1.2, hk.1.2⟩⟩⟩, hk.2⟩)) hg hat)
                                have n4_ := Aside0.mk (Kd.N_afterv (ok := (fun k_ => (P0_ k_ ∨ w.heap.size ≤ k_) ∧ some k_ ≠ (u7 : Value).ownBlock ∧ some k_ ≠ (v320 : Value).ownBlock)) (by (with_reducible repeat (first | apply Kd.N_alloc | apply Kd.N_drewN | apply Kd.N_drew)); exact HO331.out) hg hat)
                                have n5_ := Aside0.mk (hb)
                                have n6_ := Aside0.mk (ho)
                                clear HO_0
                                clear HO_7
                                clear HO321
                                clear HL328_3
                                clear HO331
                                clear HB
                                clear HO324
                                have HO_0 := n0_
                                have HO_7 := n1_
                                have HO321 := n2_
                                have HL328_3 := n3_
                                have HO331 := n4_
                                have HB := n5_
                                have HO327 := n6_
                                clear n0_ n1_ n2_ n3_ n4_ n5_ n6_
                                clear ho hb hg hat
                                refine hK.out _ _ ⟨HS0_, HS1_, HS2_, HS3_⟩ (fun hHeld => ?_)
                                clear hK K
                                refine norm_ (a' := ?_) ?_ ?_
                                rotate_left
                                · show Act.put _ (some 53) _ = _
                                  simp only [Act.put, List.setIfInBounds_toArray, List.set_cons_zero, List.set_cons_succ, i64_w, i32_w]
                                  rfl
                                exact norm_ (by simp only [putAll, Act.put, List.setIfInBounds_toArray, List.set_cons_zero, List.set_cons_succ]) (hCont (v323, v326, v330) _ ⟨hHeld, (by (with_reducible repeat (first | apply Kd.V_alloc | apply Kd.V_drewN | apply Kd.V_drew)); exact Kd.V_mono HL328_3.out (fun _ hk => ⟨hk.1.1, ⟨hk.1.2.2.1, ⟨hk.2, ⟨hk.1.2.2.2, hk.1.2.1⟩⟩⟩⟩)), (by (with_reducible repeat (first | apply Kd.R_alloc | apply Kd.R_drewN | apply Kd.R_drew)); exact Kd.R_mono HO321.out (fun _ hk => hk.1)), (by (with_reducible repeat (first | apply Kd.N_alloc | apply Kd.N_drewN | apply Kd.N_drew)); exact Kd.N_mono HO327.out (fun _ hk => ⟨hk.1, ⟨hk.2.2.1, ⟨hk.2.2.2, hk.2.1⟩⟩⟩)), (by (with_reducible repeat (first | apply Kd.N_alloc | apply Kd.N_drewN | apply Kd.N_drew)); exact Kd.N_mono HO331.out (fun _ hk => ⟨hk.1.1, ⟨hk.1.2.2, ⟨hk.2, hk.1.2.1⟩⟩⟩)), (by (with_reducible repeat (first | apply Kd.V_alloc | apply Kd.V_drewN | apply Kd.V_drew)); exact Kd.V_mono HO_0.out (fun _ hk => ⟨hk.1.1, ⟨hk.1.2.2.1, ⟨hk.2, ⟨hk.1.2.2.2, hk.1.2.1⟩⟩⟩⟩)), (by (with_reducible repeat (first | apply Kd.N_alloc | apply Kd.N_drewN | apply Kd.N_drew)); exact Kd.N_mono HO_7.out (fun _ hk => ⟨hk.1.1, ⟨hk.1.2.1, ⟨hk.2, hk.1.2.2⟩⟩⟩)), (by repeat (first | (with_reducible first | exact HB.out | apply below_alloc | apply pw_below_drewN | apply below_drew1) | exact HB.out))⟩)
                            rintro ⟨v323, v326, v330⟩ w88 ⟨hS_, h0_, h1_, h2_, h3_, h4_, h5_, h6_⟩
                            have n0_ : Aside0 (Kd.V Kd.string 9 w88 w.heap.size (fun k_ => (P0_ k_ ∨ w.heap.size ≤ k_) ∧ some k_ ≠ (v320 : Value).ownBlock ∧ some k_ ≠ (v326 : Value).ownBlock ∧ some k_ ≠ (v330 : Value).ownBlock ∧ some k_ ≠ (u7 : Value).ownBlock) (.slice A328_3 ((rd_T42 l0 0).f3).length c328_3) ((rd_T42 l0 0).f3)) := ⟨h0_⟩
                            have n1_ : Aside0 (Kd.R Kd.string 9 w88 w.heap.size (fun k_ => (w.heap.size ≤ k_)) v320 t319) := ⟨h1_⟩
                            have n2_ : Aside0 (Kd.N k42 42 w88 w.heap.size (fun k_ => (P0_ k_ ∨ w.heap.size ≤ k_) ∧ some k_ ≠ (v320 : Value).ownBlock ∧ some k_ ≠ (v330 : Value).ownBlock ∧ some k_ ≠ (u7 : Value).ownBlock) v326 y325) := ⟨h2_⟩
                            have n3_ : Aside0 (Kd.N k42 42 w88 w.heap.size (fun k_ => (P0_ k_ ∨ w.heap.size ≤ k_) ∧ some k_ ≠ (v320 : Value).ownBlock ∧ some k_ ≠ (v326 : Value).ownBlock ∧ some k_ ≠ (u7 : Value).ownBlock) v330 y329) := ⟨h3_⟩
                            have n4_ : Aside0 (Kd.V k42 42 w88 w.heap.size (fun k_ => (P0_ k_ ∨ w.heap.size ≤ k_) ∧ some k_ ≠ (v320 : Value).ownBlock ∧ some k_ ≠ (v326 : Value).ownBlock ∧ some k_ ≠ (v330 : Value).ownBlock ∧ some k_ ≠ (u7 : Value).ownBlock) (.slice (some ad328) l0.length c0) l0) := ⟨h4_⟩
                            have n5_ : Aside0 (Kd.N k42 42 w88 w.heap.size (fun k_ => (P0_ k_ ∨ w.heap.size ≤ k_) ∧ some k_ ≠ (v320 : Value).ownBlock ∧ some k_ ≠ (v326 : Value).ownBlock ∧ some k_ ≠ (v330 : Value).ownBlock) u7 x7_2) := ⟨h5_⟩
                            have n6_ : Aside0 (Below w.heap.size w w88) := ⟨h6_⟩
                            clear HO_0
                            clear HO_7
                            clear HO321
                            clear HB
                            clear h0_ h1_ h2_ h3_ h4_ h5_ h6_
                            have HL328_3 := n0_
                            have HO321 := n1_
                            have HO327 := n2_
                            have HO331 := n3_
                            have HO_0 := n4_
                            have HO_7 := n5_
                            have HB := n6_
                            clear n0_ n1_ n2_ n3_ n4_ n5_ n6_
                            have hHeld : w88.cell? ad328 = some (.int .i64 ((rd_T42 l0 0).f0)) ∧ w88.cell? ⟨ad328.block, ad328.off + 1, none⟩ = some (.string ((rd_T42 l0 0).f1)) ∧ w88.cell? ⟨ad328.block, ad328.off + 2, none⟩ = some (.string ((rd_T42 l0 0).f2)) ∧ w88.cell? ⟨ad328.block, ad328.off + 3, none⟩ = some (.slice A328_3 ((rd_T42 l0 0).f3).length c328_3) := hS_
                            obtain ⟨Ao90, co90, eo90⟩ := Kd.N_slice HO331.out
                            (first | subst eo90 | (injection eo90 with f1_ f2_ f3_; have f4_ := f1_.symm; have f5_ := f3_.symm; clear f1_ f2_ f3_; subst f4_; subst f5_))
                            refine norm_ (a' := ?_) ?_ ?_
                            rotate_left
                            · simp only [putAll, Act.put, List.setIfInBounds_toArray, List.set_cons_zero, List.set_cons_succ]
                              rfl
                            refine one_ (i := 7) (N := some 58) #[true, true, true, true, true, true, true, true, false] rfl rfl (one_of HT_.out (by kernel_rfl)) (by decide) (fun K hK => ?_)
                            refine Kd.N_append_rows_step k42 (w0 := w) w.heap.size (by rfl) (.tmp 53) (.tmp 57) 22 42 (.agg #[(.int .i64 0), (.string ⟨#[]⟩), (.string ⟨#[]⟩), (.slice none 0 0)]) 64 rfl Try.underlying22 info42 rfl (by decide) (by omega) v326 y325 y329 _ _ _ (fun k_ => (P0_ k_ ∨ w.heap.size ≤ k_) ∧ some k_ ≠ (u7 : Value).ownBlock ∧ some k_ ≠ (v320 : Value).ownBlock) (fun k_ => ((fun k_ => (P0_ k_ ∨ w.heap.size ≤ k_) ∧ some k_ ≠ (u7 : Value).ownBlock ∧ some k_ ≠ (v320 : Value).ownBlock)) k_ ∧ some k_ ≠ (v326 : Value).ownBlock) rfl rfl ?aO ?aR (fun _ hk => hk) ?aF ?aB ?aS ?aL ?_
                            (case aR => exact (by skip; exact Kd.N_F (Kd.N_mono (ok' := (fun k_ => ((fun k_ => (P0_ k_ ∨ w.heap.size ≤ k_) ∧ some k_ ≠ (u7 : Value).ownBlock ∧ some k_ ≠ (v320 : Value).ownBlock)) k_ ∧ some k_ ≠ (v326 : Value).ownBlock)) (HO331.out) (fun k_ hk => ⟨⟨hk.1, ⟨hk.2.2.2, hk.2.1⟩⟩, hk.2.2.1⟩))))
                            (case aB => exact (by repeat (first | (with_reducible first | exact HB.out | apply below_alloc | apply pw_below_drewN | apply below_drew1) | exact HB.out)))
                            (case aF => exact (fun k_ hk => ⟨(.inr (Nat.le_trans (below_size (by repeat (first | (with_reducible first | exact HB.out | apply below_alloc | apply pw_below_drewN | apply below_drew1) | exact HB.out))) hk)), Kd.fresh' (Kd.N_lt (by (with_reducible repeat (first | apply Kd.N_alloc | apply Kd.N_drewN | apply Kd.N_drew)); exact HO_7.out)) k_ hk, Kd.fresh' (Kd.R_lt (by (with_reducible repeat (first | apply Kd.R_alloc | apply Kd.R_drewN | apply Kd.R_drew)); exact HO321.out)) k_ hk⟩))
                            (case aO => exact (by (with_reducible repeat (first | apply Kd.N_alloc | apply Kd.N_drewN | apply Kd.N_drew)); exact Kd.N_mono HO327.out (fun _ hk => ⟨hk.1, ⟨hk.2.2.2, hk.2.1⟩⟩)))
                            (case aS => exact (below_size (by repeat (first | (with_reducible first | exact HB.out | apply below_alloc | apply pw_below_drewN | apply below_drew1) | exact HB.out))))
                            (case aL => have := LMc32.out; omega)
                            intro v333 w89 ho hb hg hat
                            have HS0_ := cell_grown hg (hHeld.1) (by have hk_ := Go.Proofs.YtnpipaehcklnbaaW.Fb.V_ok HO_0.out (by decide) (by have h_ : (0 : Int) < (l0.length : Int) := (by first | (exact of_decide_eq_true (by first | (with_reducible assumption) | assumption)) | omega); omega); first | exact hk_.2 | exact hk_.2.2 | exact hk_.2.1 | exact hk_.1.2 | exact hk_.2.2.1 | exact hk_.2.2.2 | exact hk_.1.2.2 | exact hk_.1.2.1 | exact hk_.2.1.2 | exact hk_.2.1.1)
                            have HS1_ := cell_grown hg (hHeld.2.1) (by have hk_ := Go.Proofs.YtnpipaehcklnbaaW.Fb.V_ok HO_0.out (by decide) (by have h_ : (0 : Int) < (l0.length : Int) := (by first | (exact of_decide_eq_true (by first | (with_reducible assumption) | assumption)) | omega); omega); first | exact hk_.2 | exact hk_.2.2 | exact hk_.2.1 | exact hk_.1.2 | exact hk_.2.2.1 | exact hk_.2.2.2 | exact hk_.1.2.2 | exact hk_.1.2.1 | exact hk_.2.1.2 | exact hk_.2.1.1)
                            have HS2_ := cell_grown hg (hHeld.2.2.1) (by have hk_ := Go.Proofs.YtnpipaehcklnbaaW.Fb.V_ok HO_0.out (by decide) (by have h_ : (0 : Int) < (l0.length : Int) := (by first | (exact of_decide_eq_true (by first | (with_reducible assumption) | assumption)) | omega); omega); first | exact hk_.2 | exact hk_.2.2 | exact hk_.2.1 | exact hk_.1.2 | exact hk_.2.2.1 | exact hk_.2.2.2 | exact hk_.1.2.2 | exact hk_.1.2.1 | exact hk_.2.1.2 | exact hk_.2.1.1)
                            have HS3_ := cell_grown hg (hHeld.2.2.2) (by have hk_ := Go.Proofs.YtnpipaehcklnbaaW.Fb.V_ok HO_0.out (by decide) (by have h_ : (0 : Int) < (l0.length : Int) := (by first | (exact of_decide_eq_true (by first | (with_reducible assumption) | assumption)) | omega); omega); first | exact hk_.2 | exact hk_.2.2 | exact hk_.2.1 | exact hk_.1.2 | exact hk_.2.2.1 | exact hk_.2.2.2 | exact hk_.1.2.2 | exact hk_.1.2.1 | exact hk_.2.1.2 | exact hk_.2.1.1)
                            rw [← Ny332.out] at ho
                            have n0_ := Aside0.mk (Kd.V_afterv (ok := (fun k_ => (P0_ k_ ∨ w.heap.size ≤ k_) ∧ some k_ ≠ (u7 : Value).ownBlock ∧ some k_ ≠ (v320 : Value).ownBlock ∧ some k_ ≠ (.slice Ao90 y329.length co90 : Value).ownBlock)) (by (with_reducible repeat (first | apply Kd.V_alloc | apply Kd.V_drewN | apply Kd.V_drew)); exact Kd.V_mono HO_0.out (fun _ hk => ⟨⟨hk.1, ⟨hk.2.2.2.2, ⟨hk.2.1, hk.2.2.2.1⟩⟩⟩, hk.2.2.1⟩)) hg hat)
                            have n1_ := Aside0.mk (Kd.N_afterv (ok := (fun k_ => (P0_ k_ ∨ w.heap.size ≤ k_) ∧ some k_ ≠ (v320 : Value).ownBlock ∧ some k_ ≠ (.slice Ao90 y329.length co90 : Value).ownBlock)) (by (with_reducible repeat (first | apply Kd.N_alloc | apply Kd.N_drewN | apply Kd.N_drew)); exact Kd.N_mono HO_7.out (fun _ hk => ⟨⟨hk.1, ⟨hk.2.1, hk.2.2.2⟩⟩, hk.2.2.1⟩)) hg hat)
                            have n2_ := Aside0.mk (Kd.R_over' (by (with_reducible repeat (first | apply Kd.R_alloc | apply Kd.R_drewN | apply Kd.R_drew)); exact HO321.out) (Kd.N_typed (by (with_reducible repeat (first | apply Kd.N_alloc | apply Kd.N_drewN | apply Kd.N_drew)); exact HO327.out)) (by decide) hg)
                            have n3_ := Aside0.mk (Kd.V_afterv (ok := (fun k_ => (P0_ k_ ∨ w.heap.size ≤ k_) ∧ some k_ ≠ (u7 : Value).ownBlock ∧ some k_ ≠ (v320 : Value).ownBlock ∧ some k_ ≠ (.slice Ao90 y329.length co90 : Value).ownBlock)) (by (with_reducible repeat (first | apply Kd.V_alloc | apply Kd.V_drewN | apply Kd.V_drew)); exact Kd.V_mono HL328_3.out (fun _ hk => ⟨⟨hk.1, ⟨hk.2.2.2.2, ⟨hk.2.1, hk.2.2.2.1⟩⟩⟩, hk.2.2.1⟩)) hg hat)
                            have n4_ := Aside0.mk (Kd.N_afterv (ok := (fun k_ => (P0_ k_ ∨ w.heap.size ≤ k_) ∧ some k_ ≠ (u7 : Value).ownBlock ∧ some k_ ≠ (v320 : Value).ownBlock)) (by (with_reducible repeat (first | apply Kd.N_alloc | apply Kd.N_drewN | apply Kd.N_drew)); exact Kd.N_mono HO331.out (fun _ hk => ⟨⟨hk.1, ⟨hk.2.2.2, hk.2.1⟩⟩, hk.2.2.1⟩)) hg hat)
                            have n5_ := Aside0.mk (hb)
                            have n6_ := Aside0.mk (ho)
                            clear HO_0
                            clear HO_7
                            clear HO321
                            clear HL328_3
                            clear HO331
                            clear HB
                            clear HO327
                            have HO_0 := n0_
                            have HO_7 := n1_
                            have HO321 := n2_
                            have HL328_3 := n3_
                            have HO331 := n4_
                            have HB := n5_
                            have HO334 := n6_
                            clear n0_ n1_ n2_ n3_ n4_ n5_ n6_
                            clear ho hb hg hat
                            refine hK.out _ _ ⟨HS0_, HS1_, HS2_, HS3_⟩ (fun hHeld => ?_)
                            clear hK K
                            refine norm_ (a' := ?_) ?_ ?_
                            rotate_left
                            · show Act.put _ (some 58) _ = _
                              simp only [Act.put, List.setIfInBounds_toArray, List.set_cons_zero, List.set_cons_succ, i64_w, i32_w]
                              rfl
                            refine pure_ (i := 8) (N := some 10) (v := ?_) (a' := ?_) #[true, true, true, true, true, true, true, true, true] rfl rfl (any_of HT_.out (by kernel_rfl)) (fun _ _ _ h => h) (Or.inl ⟨by rfl, ?_⟩) ?_ ?_
                            rotate_left
                            · intro w'
                              go_simp
                              with_reducible rfl
                            rotate_left
                            · simp only [Act.put, List.setIfInBounds_toArray, List.set_cons_zero, List.set_cons_succ, i64_w, i32_w]
                              rfl
                            refine done_ (done_of HT_.out (by kernel_rfl)) ?_
                            obtain ⟨Ao91, co91, eo91⟩ := Kd.N_slice HO_7.out
                            subst eo91
                            try go_wp2_with (first | ((with_reducible refine gate_callee (f := 17) rfl ?_); refine goesL_ (some 62) rfl rfl Try.func17 (by kernel_rfl) rfl #[.slice Ao91 x7_2.length co91, .slice A1 l1.length c1] rfl (by (try simp only [List.map_toArray, List.map_cons, List.map_nil]); first | done | rfl | (simp only [List.length_drop, List.length_take]; rfl)) ?_; (with_reducible refine (choose_Keys.calls k2 _ _ x7_2 _ _ l1 t335 _ ?side1 ?side2 ?side3 ?side4 A33.out).mono ?_); (case side1 => repeat (first | exact (Kd.N_reads' HO_7.out).2.2 | (with_reducible refine Kd.C_alloc ?_ _) | (with_reducible refine Kd.C_drewN ?_ _) | (with_reducible refine Kd.C_drew ?_))); (case side2 => exact (Kd.N_reads' HO_7.out).2.1); (case side3 => repeat (first | exact (Kd.C_below HR1.out HB.out) | (with_reducible refine Kd.C_alloc ?_ _) | (with_reducible refine Kd.C_drewN ?_ _) | (with_reducible refine Kd.C_drew ?_))); (case side4 => exact HC1.out); rintro e w92 ⟨v336, rfl, ho0, hb⟩; refine ⟨_, rfl, ?_⟩; have n0_ := Aside0.mk (Kd.V_elder' (by (with_reducible repeat (first | apply Kd.V_alloc | apply Kd.V_drewN | apply Kd.V_drew)); exact HO_0.out) (Kd.R_base ho0) hb); have n1_ := Aside0.mk (Kd.N_elder' (by (with_reducible repeat (first | apply Kd.N_alloc | apply Kd.N_drewN | apply Kd.N_drew)); exact HO_7.out) (Kd.R_base ho0) hb); have n2_ := Aside0.mk (Kd.R_elder' (by (with_reducible repeat (first | apply Kd.R_alloc | apply Kd.R_drewN | apply Kd.R_drew)); exact HO321.out) (Kd.R_base ho0) hb); have n3_ := Aside0.mk (Kd.V_elder' (by (with_reducible repeat (first | apply Kd.V_alloc | apply Kd.V_drewN | apply Kd.V_drew)); exact HL328_3.out) (Kd.R_base ho0) hb); have n4_ := Aside0.mk (Kd.N_elder' (by (with_reducible repeat (first | apply Kd.N_alloc | apply Kd.N_drewN | apply Kd.N_drew)); exact HO331.out) (Kd.R_base ho0) hb); have n5_ := Aside0.mk (Kd.N_elder' (by (with_reducible repeat (first | apply Kd.N_alloc | apply Kd.N_drewN | apply Kd.N_drew)); exact HO334.out) (Kd.R_base ho0) hb); have n6_ := Aside0.mk (Kd.R_lower (Kd.R_new' (Kd.R_newM (M := fun k_ => (w.heap.size ≤ k_)) ho0 (below_size (by repeat (first | (with_reducible first | exact HB.out | apply below_alloc | apply pw_below_drewN | apply below_drew1) | exact HB.out))) (fun k_ h_ => h_)) (Kd.R_lt (by (with_reducible repeat (first | apply Kd.R_alloc | apply Kd.R_drewN | apply Kd.R_drew)); exact HO321.out))) (below_size (by repeat (first | (with_reducible first | exact HB.out | apply below_alloc | apply pw_below_drewN | apply below_drew1) | exact HB.out)))); have n7_ := Aside0.mk (below_step (by repeat (first | (with_reducible first | exact HB.out | apply below_alloc | apply pw_below_drewN | apply below_drew1) | exact HB.out)) hb); clear HO_0; clear HO_7; clear HO321; clear HL328_3; clear HO331; clear HO334; clear HB; have HO_0 := n0_; have HO_7 := n1_; have HO321 := n2_; have HL328_3 := n3_; have HO331 := n4_; have HO334 := n5_; have HO337 := n6_; have HB := n7_; clear n0_ n1_ n2_ n3_ n4_ n5_ n6_ n7_; (try clear hb); (try clear hb2); (try clear hk); (try clear hi); (try clear ho0); obtain ⟨Ao93, co93, eo93⟩ := Kd.R_slice HO321.out; subst eo93; obtain ⟨Ao94, co94, eo94⟩ := Kd.R_slice HO337.out; subst eo94) | ((with_reducible refine gate_callee (f := 16) rfl ?_); refine goesL_ (some 63) rfl rfl Try.func16 (by kernel_rfl) rfl #[.slice Ao93 t319.length co93, .slice Ao94 t335.length co94] rfl (by (try simp only [List.map_toArray, List.map_cons, List.map_nil]); first | done | rfl | (simp only [List.length_drop, List.length_take]; rfl)) ?_; (with_reducible refine (samphireref16_Strings.calls k2 _ _ t319 _ _ t335 true _ ?side1 ?side2 ?side3 ?side4 A34.out).mono ?_); (case side1 => repeat (first | exact (Kd.R_reads' HO321.out).2.2 | (with_reducible refine Kd.C_alloc ?_ _) | (with_reducible refine Kd.C_drewN ?_ _) | (with_reducible refine Kd.C_drew ?_))); (case side2 => exact (Kd.R_reads' HO321.out).2.1); (case side3 => repeat (first | exact (Kd.R_reads' HO337.out).2.2 | (with_reducible refine Kd.C_alloc ?_ _) | (with_reducible refine Kd.C_drewN ?_ _) | (with_reducible refine Kd.C_drew ?_))); (case side4 => exact (Kd.R_reads' HO337.out).2.1); rintro e w' ⟨rfl, ⟨nd, rfl⟩⟩; refine ⟨_, rfl, ?_⟩; obtain ⟨Ao95, co95, eo95⟩ := Kd.N_slice HO334.out; subst eo95) | (go_at_call 17; (with_reducible refine (choose_Keys.calls k2 _ _ y332 _ _ l1 t344 _ ?side1 ?side2 ?side3 ?side4 A74.out).mono ?_); (case side1 => repeat (first | exact (Kd.N_reads' HO334.out).2.2 | (with_reducible refine Kd.C_alloc ?_ _) | (with_reducible refine Kd.C_drewN ?_ _) | (with_reducible refine Kd.C_drew ?_))); (case side2 => exact (Kd.N_reads' HO334.out).2.1); (case side3 => repeat (first | exact (Kd.C_below HR1.out (by repeat (first | (with_reducible first | exact HB.out | apply below_alloc | apply pw_below_drewN | apply below_drew1) | exact HB.out))) | (with_reducible refine Kd.C_alloc ?_ _) | (with_reducible refine Kd.C_drewN ?_ _) | (with_reducible refine Kd.C_drew ?_))); (case side4 => exact HC1.out); rintro e w96 ⟨v345, rfl, ho0, hb⟩; have n0_ := Aside0.mk (Kd.V_elder' (by (with_reducible repeat (first | apply Kd.V_alloc | apply Kd.V_drewN | apply Kd.V_drew)); exact HO_0.out) (Kd.R_base ho0) hb); have n1_ := Aside0.mk (Kd.N_elder' (by (with_reducible repeat (first | apply Kd.N_alloc | apply Kd.N_drewN | apply Kd.N_drew)); exact HO_7.out) (Kd.R_base ho0) hb); have n2_ := Aside0.mk (Kd.R_elder' (by (with_reducible repeat (first | apply Kd.R_alloc | apply Kd.R_drewN | apply Kd.R_drew)); exact HO321.out) (Kd.R_base ho0) hb); have n3_ := Aside0.mk (Kd.V_elder' (by (with_reducible repeat (first | apply Kd.V_alloc | apply Kd.V_drewN | apply Kd.V_drew)); exact HL328_3.out) (Kd.R_base ho0) hb); have n4_ := Aside0.mk (Kd.N_elder' (by (with_reducible repeat (first | apply Kd.N_alloc | apply Kd.N_drewN | apply Kd.N_drew)); exact HO331.out) (Kd.R_base ho0) hb); have n5_ := Aside0.mk (Kd.N_elder' (by (with_reducible repeat (first | apply Kd.N_alloc | apply Kd.N_drewN | apply Kd.N_drew)); exact HO334.out) (Kd.R_base ho0) hb); have n6_ := Aside0.mk (Kd.R_elder' (by (with_reducible repeat (first | apply Kd.R_alloc | apply Kd.R_drewN | apply Kd.R_drew)); exact HO337.out) (Kd.R_base ho0) hb); have n7_ := Aside0.mk (Kd.R_lower (Kd.R_new' (Kd.R_new' (Kd.R_newM (M := fun k_ => (w.heap.size ≤ k_)) ho0 (below_size (by repeat (first | (with_reducible first | exact HB.out | apply below_alloc | apply pw_below_drewN | apply below_drew1) | exact HB.out))) (fun k_ h_ => h_)) (Kd.R_lt (by (with_reducible repeat (first | apply Kd.R_alloc | apply Kd.R_drewN | apply Kd.R_drew)); exact HO321.out))) (Kd.R_lt (by (with_reducible repeat (first | apply Kd.R_alloc | apply Kd.R_drewN | apply Kd.R_drew)); exact HO337.out))) (below_size (by repeat (first | (with_reducible first | exact HB.out | apply below_alloc | apply pw_below_drewN | apply below_drew1) | exact HB.out)))); have n8_ := Aside0.mk (below_step (by repeat (first | (with_reducible first | exact HB.out | apply below_alloc | apply pw_below_drewN | apply below_drew1) | exact HB.out)) hb); clear HO_0; clear HO_7; clear HO321; clear HL328_3; clear HO331; clear HO334; clear HO337; clear HB; have HO_0 := n0_; have HO_7 := n1_; have HO321 := n2_; have HL328_3 := n3_; have HO331 := n4_; have HO334 := n5_; have HO337 := n6_; have HO346 := n7_; have HB := n8_; clear n0_ n1_ n2_ n3_ n4_ n5_ n6_ n7_ n8_; (try clear hb); (try clear hb2); (try clear hk); (try clear hi); (try clear ho0); obtain ⟨Ao97, co97, eo97⟩ := Kd.R_slice HO346.out; subst eo97) | (go_at_call 16; (with_reducible refine (samphireref16_Strings.calls k2 _ _ t319 _ _ t344 true _ ?side1 ?side2 ?side3 ?side4 A75.out).mono ?_); (case side1 => repeat (first | exact (Kd.R_reads' HO321.out).2.2 | (with_reducible refine Kd.C_alloc ?_ _) | (with_reducible refine Kd.C_drewN ?_ _) | (with_reducible refine Kd.C_drew ?_))); (case side2 => exact (Kd.R_reads' HO321.out).2.1); (case side3 => repeat (first | exact (Kd.R_reads' HO346.out).2.2 | (with_reducible refine Kd.C_alloc ?_ _) | (with_reducible refine Kd.C_drewN ?_ _) | (with_reducible refine Kd.C_drew ?_))); (case side4 => exact (Kd.R_reads' HO346.out).2.1); rintro e w' ⟨rfl, ⟨nd, rfl⟩⟩) | (go_at_call 17; (with_reducible refine (choose_Keys.calls k2 _ _ l0 _ _ t319 t348 _ ?side1 ?side2 ?side3 ?side4 A77.out).mono ?_); (case side1 => repeat (first | exact (Kd.V_reads' HO_0.out).2.2 | (with_reducible refine Kd.C_alloc ?_ _) | (with_reducible refine Kd.C_drewN ?_ _) | (with_reducible refine Kd.C_drew ?_))); (case side2 => exact (Kd.V_reads' HO_0.out).2.1); (case side3 => repeat (first | exact (Kd.R_reads' HO321.out).2.2 | (with_reducible refine Kd.C_alloc ?_ _) | (with_reducible refine Kd.C_drewN ?_ _) | (with_reducible refine Kd.C_drew ?_))); (case side4 => exact (Kd.R_reads' HO321.out).2.1); rintro e w98 ⟨v349, rfl, ho0, hb⟩; have n0_ := Aside0.mk (Kd.V_elder' (by (with_reducible repeat (first | apply Kd.V_alloc | apply Kd.V_drewN | apply Kd.V_drew)); exact HO_0.out) (Kd.R_base ho0) hb); have n1_ := Aside0.mk (Kd.N_elder' (by (with_reducible repeat (first | apply Kd.N_alloc | apply Kd.N_drewN | apply Kd.N_drew)); exact HO_7.out) (Kd.R_base ho0) hb); have n2_ := Aside0.mk (Kd.R_elder' (by (with_reducible repeat (first | apply Kd.R_alloc | apply Kd.R_drewN | apply Kd.R_drew)); exact HO321.out) (Kd.R_base ho0) hb); have n3_ := Aside0.mk (Kd.V_elder' (by (with_reducible repeat (first | apply Kd.V_alloc | apply Kd.V_drewN | apply Kd.V_drew)); exact HL328_3.out) (Kd.R_base ho0) hb); have n4_ := Aside0.mk (Kd.N_elder' (by (with_reducible repeat (first | apply Kd.N_alloc | apply Kd.N_drewN | apply Kd.N_drew)); exact HO331.out) (Kd.R_base ho0) hb); have n5_ := Aside0.mk (Kd.N_elder' (by (with_reducible repeat (first | apply Kd.N_alloc | apply Kd.N_drewN | apply Kd.N_drew)); exact HO334.out) (Kd.R_base ho0) hb); have n6_ := Aside0.mk (Kd.R_elder' (by (with_reducible repeat (first | apply Kd.R_alloc | apply Kd.R_drewN | apply Kd.R_drew)); exact HO337.out) (Kd.R_base ho0) hb); have n7_ := Aside0.mk (Kd.R_elder' (by (with_reducible repeat (first | apply Kd.R_alloc | apply Kd.R_drewN | apply Kd.R_drew)); exact HO346.out) (Kd.R_base ho0) hb); have n8_ := Aside0.mk (Kd.R_lower (Kd.R_new' (Kd.R_new' (Kd.R_new' (Kd.R_newM (M := fun k_ => (w.heap.size ≤ k_)) ho0 (below_size (by repeat (first | (with_reducible first | exact HB.out | apply below_alloc | apply pw_below_drewN | apply below_drew1) | exact HB.out))) (fun k_ h_ => h_)) (Kd.R_lt (by (with_reducible repeat (first | apply Kd.R_alloc | apply Kd.R_drewN | apply Kd.R_drew)); exact HO321.out))) (Kd.R_lt (by (with_reducible repeat (first | apply Kd.R_alloc | apply Kd.R_drewN | apply Kd.R_drew)); exact HO337.out))) (Kd.R_lt (by (with_reducible repeat (first | apply Kd.R_alloc | apply Kd.R_drewN | apply Kd.R_drew)); exact HO346.out))) (below_size (by repeat (first | (with_reducible first | exact HB.out | apply below_alloc | apply pw_below_drewN | apply below_drew1) | exact HB.out)))); have n9_ := Aside0.mk (below_step (by repeat (first | (with_reducible first | exact HB.out | apply below_alloc | apply pw_below_drewN | apply below_drew1) | exact HB.out)) hb); clear HO_0; clear HO_7; clear HO321; clear HL328_3; clear HO331; clear HO334; clear HO337; clear HO346; clear HB; have HO_0 := n0_; have HO_7 := n1_; have HO321 := n2_; have HL328_3 := n3_; have HO331 := n4_; have HO334 := n5_; have HO337 := n6_; have HO346 := n7_; have HO350 := n8_; have HB := n9_; clear n0_ n1_ n2_ n3_ n4_ n5_ n6_ n7_ n8_ n9_; (try clear hb); (try clear hb2); (try clear hk); (try clear hi); (try clear ho0); obtain ⟨Ao99, co99, eo99⟩ := Kd.R_slice HO350.out; subst eo99) | (go_at_call 16; (with_reducible refine (samphireref16_Strings.calls k2 _ _ t348 _ _ t319 true _ ?side1 ?side2 ?side3 ?side4 A78.out).mono ?_); (case side1 => repeat (first | exact (Kd.R_reads' HO350.out).2.2 | (with_reducible refine Kd.C_alloc ?_ _) | (with_reducible refine Kd.C_drewN ?_ _) | (with_reducible refine Kd.C_drew ?_))); (case side2 => exact (Kd.R_reads' HO350.out).2.1); (case side3 => repeat (first | exact (Kd.R_reads' HO321.out).2.2 | (with_reducible refine Kd.C_alloc ?_ _) | (with_reducible refine Kd.C_drewN ?_ _) | (with_reducible refine Kd.C_drew ?_))); (case side4 => exact (Kd.R_reads' HO321.out).2.1); rintro e w' ⟨rfl, ⟨nd, rfl⟩⟩) | (go_at_call 11; (with_reducible refine (samphirelaw19_awake.calls k2  t352 hrT _ A80.out).mono ?_); rintro e w100 ⟨rfl, hb⟩; have n0_ := Aside0.mk (Kd.V_below (by (with_reducible repeat (first | apply Kd.V_alloc | apply Kd.V_drewN | apply Kd.V_drew)); exact HO_0.out) hb); have n1_ := Aside0.mk (Kd.N_below (by (with_reducible repeat (first | apply Kd.N_alloc | apply Kd.N_drewN | apply Kd.N_drew)); exact HO_7.out) hb); have n2_ := Aside0.mk (Kd.R_below (by (with_reducible repeat (first | apply Kd.R_alloc | apply Kd.R_drewN | apply Kd.R_drew)); exact HO321.out) hb); have n3_ := Aside0.mk (Kd.V_below (by (with_reducible repeat (first | apply Kd.V_alloc | apply Kd.V_drewN | apply Kd.V_drew)); exact HL328_3.out) hb); have n4_ := Aside0.mk (Kd.N_below (by (with_reducible repeat (first | apply Kd.N_alloc | apply Kd.N_drewN | apply Kd.N_drew)); exact HO331.out) hb); have n5_ := Aside0.mk (Kd.N_below (by (with_reducible repeat (first | apply Kd.N_alloc | apply Kd.N_drewN | apply Kd.N_drew)); exact HO334.out) hb); have n6_ := Aside0.mk (Kd.R_below (by (with_reducible repeat (first | apply Kd.R_alloc | apply Kd.R_drewN | apply Kd.R_drew)); exact HO337.out) hb); have n7_ := Aside0.mk (Kd.R_below (by (with_reducible repeat (first | apply Kd.R_alloc | apply Kd.R_drewN | apply Kd.R_drew)); exact HO346.out) hb); have n8_ := Aside0.mk (Kd.R_below (by (with_reducible repeat (first | apply Kd.R_alloc | apply Kd.R_drewN | apply Kd.R_drew)); exact HO350.out) hb); have n9_ := Aside0.mk (below_step (by repeat (first | (with_reducible first | exact HB.out | apply below_alloc | apply pw_below_drewN | apply below_drew1) | exact HB.out)) hb); clear HO_0; clear HO_7; clear HO321; clear HL328_3; clear HO331; clear HO334; clear HO337; clear HO346; clear HO350; clear HB; have HO_0 := n0_; have HO_7 := n1_; have HO321 := n2_; have HL328_3 := n3_; have HO331 := n4_; have HO334 := n5_; have HO337 := n6_; have HO346 := n7_; have HO350 := n8_; have HB := n9_; clear n0_ n1_ n2_ n3_ n4_ n5_ n6_ n7_ n8_ n9_; (try clear hb); (try clear hb2); (try clear hk); (try clear hi)))
                            go_ret
                            exact ⟨by first | rfl | (simp [errW_none, errW_some] <;> rfl) | (simp [*, errW_none, errW_some] <;> rfl), by repeat (first | (with_reducible first | exact HB.out | apply below_alloc | apply pw_below_drewN | apply below_drew1) | exact HB.out)⟩
                          · replace c79 := Bool.eq_false_iff.mpr c79
                            subst c79
                            have H1 : (some false) = some r := by rw [if_neg (show ¬ (false = true) by decide)] at H; exact H
                            exact Bool.noConfusion ((Option.some.inj H1).trans hrT.out)
                        · replace c76 := Bool.eq_false_iff.mpr c76
                          subst c76
                          have H1 : (some false) = some r := by rw [if_neg (show ¬ (false = true) by decide)] at H; exact H
                          exact Bool.noConfusion ((Option.some.inj H1).trans hrT.out)
                    · replace c35 := Bool.eq_false_iff.mpr c35
                      subst c35
                      have H1 : (some false) = some r := by rw [if_neg (show ¬ (false = true) by decide)] at H; exact H
                      exact Bool.noConfusion ((Option.some.inj H1).trans hrT.out)
                  · rw [if_neg c32] at H
                    exact absurd H (by simp)
                · rw [if_neg c31] at H
                  exact absurd H (by simp)
              · rw [if_neg c30] at H
                exact absurd H (by simp)

end Go.Proofs.Ytnpipaehcklnbaa.H
