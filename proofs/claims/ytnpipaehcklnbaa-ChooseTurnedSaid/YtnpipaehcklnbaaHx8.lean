-- laid by wip/hyb.py (the kit's printer with turns of ours)
import Derived.Test.YtnpipaehcklnbaaHx0
namespace Go.Proofs.Ytnpipaehcklnbaa.H
open Go.RowKit Go.Proofs.YtnpipaehcklnbaaW.PrintWords Go.Proofs.YtnpipaehcklnbaaW.PrintLast Go.Proofs.YtnpipaehcklnbaaW.PrintMore
attribute [local go_sem] max2_int min2_int max_two min_two max_three min_three max_four min_four   -- for this text's walks alone
set_option linter.unusedVariables false
set_option linter.unusedSimpArgs false

/-! ### samphireref19_Same: function 19 -/
mutual
def samphireref19_Same.l0 : Nat → List (S46) → List (S46) → Int → Option (Bool)
  | 0, _, _, _ => none
  | k + 1, x0, x1, x5 => if x5 < (x0.length : Int) then (if 0 ≤ x5 then (if x5 < (x1.length : Int) then (if ((rd_T46 x0 x5).f0) = ((rd_T46 x1 x5).f0) then (if ((rd_T46 x0 x5).f1).toList = ((rd_T46 x1 x5).f1).toList then (if ((rd_T46 x0 x5).f2).toList = ((rd_T46 x1 x5).f2).toList then (samphireref19_Same.j1 k x0 x1 x5 ((((rd_T46 x0 x5).f3).length : Int) != (((rd_T46 x1 x5).f3).length : Int))) else (samphireref19_Same.j1 k x0 x1 x5 true)) else (samphireref19_Same.j1 k x0 x1 x5 true)) else (samphireref19_Same.j1 k x0 x1 x5 true)) else (none)) else (none)) else (some true)
def samphireref19_Same.j1 : Nat → List (S46) → List (S46) → Int → Bool → Option (Bool)
  | 0, _, _, _, _ => none
  | k + 1, x0, x1, x5, x69 => if x69 = true then (some false) else (samphireref19_Same.l1 k x0 x1 x5 0)
def samphireref19_Same.l1 : Nat → List (S46) → List (S46) → Int → Int → Option (Bool)
  | 0, _, _, _, _ => none
  | k + 1, x0, x1, x5, x6 => if 0 ≤ x5 then (if x5 < (x0.length : Int) then (if x6 < (((rd_T46 x0 x5).f3).length : Int) then (if 0 ≤ x6 then (if x5 < (x1.length : Int) then (if x6 < (((rd_T46 x1 x5).f3).length : Int) then (if (rdOf ByteArray.empty ((rd_T46 x0 x5).f3) x6).toList = (rdOf ByteArray.empty ((rd_T46 x1 x5).f3) x6).toList then (samphireref19_Same.l1 k x0 x1 x5 (wrap64 (x6 + 1))) else (some false)) else (none)) else (none)) else (none)) else (samphireref19_Same.l0 k x0 x1 (wrap64 (x5 + 1)))) else (none)) else (none)
end
def samphireref19_Same.f (k : Nat) (l0 : List (S46)) (l1 : List (S46)) : Option (Bool) := if (l0.length : Int) = (l1.length : Int) then (samphireref19_Same.l0 k l0 l1 0) else (some false)
theorem samphireref19_Same.mono_l : ∀ k, (∀ y0 y1 y2, LeO (samphireref19_Same.l0 k y0 y1 y2) (samphireref19_Same.l0 (k + 1) y0 y1 y2)) ∧ (∀ y0 y1 y2 y3, LeO (samphireref19_Same.j1 k y0 y1 y2 y3) (samphireref19_Same.j1 (k + 1) y0 y1 y2 y3)) ∧ (∀ y0 y1 y2 y3, LeO (samphireref19_Same.l1 k y0 y1 y2 y3) (samphireref19_Same.l1 (k + 1) y0 y1 y2 y3))
  | 0 => ⟨fun _ _ _ r h => by simp [samphireref19_Same.l0] at h, fun _ _ _ _ r h => by simp [samphireref19_Same.j1] at h, fun _ _ _ _ r h => by simp [samphireref19_Same.l1] at h⟩
  | k + 1 => by
    obtain ⟨ih0, ih1, ih2⟩ := samphireref19_Same.mono_l k
    refine ⟨?_, ?_, ?_⟩
    · intro y0 y1 y2
      unfold samphireref19_Same.l0
      repeat' first
      | (with_reducible exact ih0 _ _ _)
      | (with_reducible exact ih1 _ _ _ _)
      | (with_reducible exact ih2 _ _ _ _)
      | (with_reducible exact LeO.refl _)
      | (with_reducible exact LeO.none _)
      | (with_reducible refine LeO.ite ?_ ?_)
      | (with_reducible refine LeO.bind ?_ (fun _ => ?_))
      | exact ih0 _ _ _
      | exact ih1 _ _ _ _
      | exact ih2 _ _ _ _
      | exact LeO.none _
      | refine LeO.ite ?_ ?_
      | refine LeO.bind ?_ (fun _ => ?_)
    · intro y0 y1 y2 y3
      unfold samphireref19_Same.j1
      repeat' first
      | (with_reducible exact ih0 _ _ _)
      | (with_reducible exact ih1 _ _ _ _)
      | (with_reducible exact ih2 _ _ _ _)
      | (with_reducible exact LeO.refl _)
      | (with_reducible exact LeO.none _)
      | (with_reducible refine LeO.ite ?_ ?_)
      | (with_reducible refine LeO.bind ?_ (fun _ => ?_))
      | exact ih0 _ _ _
      | exact ih1 _ _ _ _
      | exact ih2 _ _ _ _
      | exact LeO.none _
      | refine LeO.ite ?_ ?_
      | refine LeO.bind ?_ (fun _ => ?_)
    · intro y0 y1 y2 y3
      unfold samphireref19_Same.l1
      repeat' first
      | (with_reducible exact ih0 _ _ _)
      | (with_reducible exact ih1 _ _ _ _)
      | (with_reducible exact ih2 _ _ _ _)
      | (with_reducible exact LeO.refl _)
      | (with_reducible exact LeO.none _)
      | (with_reducible refine LeO.ite ?_ ?_)
      | (with_reducible refine LeO.bind ?_ (fun _ => ?_))
      | exact ih0 _ _ _
      | exact ih1 _ _ _ _
      | exact ih2 _ _ _ _
      | exact LeO.none _
      | refine LeO.ite ?_ ?_
      | refine LeO.bind ?_ (fun _ => ?_)
theorem samphireref19_Same.mono : ∀ a0 a1 k, LeO (samphireref19_Same.f k a0 a1) (samphireref19_Same.f (k + 1) a0 a1) := by
  intro a0 a1 k
  obtain ⟨ih0, ih1, ih2⟩ := samphireref19_Same.mono_l k
  unfold samphireref19_Same.f
  repeat' first
      | (with_reducible exact ih0 _ _ _)
      | (with_reducible exact ih1 _ _ _ _)
      | (with_reducible exact ih2 _ _ _ _)
      | (with_reducible exact LeO.refl _)
      | (with_reducible exact LeO.none _)
      | (with_reducible refine LeO.ite ?_ ?_)
      | (with_reducible refine LeO.bind ?_ (fun _ => ?_))
      | exact ih0 _ _ _
      | exact ih1 _ _ _ _
      | exact ih2 _ _ _ _
      | exact LeO.none _
      | refine LeO.ite ?_ ?_
      | refine LeO.bind ?_ (fun _ => ?_)
set_option maxHeartbeats 8000000 in
set_option maxRecDepth 100000 in
theorem samphireref19_Same.calls (k : Nat) (A0 : Option Addr) (c0 : Nat) (l0 : List (S46)) (A1 : Option Addr) (c1 : Nat) (l1 : List (S46)) (r : Bool) (w : World) (hr0 : Kd.C k46 w A0 l0.length l0) (hc0 : l0.length ≤ c0) (hr1 : Kd.C k46 w A1 l1.length l1) (hc1 : l1.length ≤ c1) (h : samphireref19_Same.f k l0 l1 = some r) :
    Calls Try.prog 19 #[.slice A0 l0.length c0, .slice A1 l1.length c1] w fun e w' => e = .returned (.bool r) ∧ Drawn0 w w' := by
  have HR0 := Aside0.mk hr0
  have HC0 := Aside0.mk hc0
  clear hr0 hc0
  have HR1 := Aside0.mk hr1
  have HC1 := Aside0.mk hc1
  clear hr1 hc1
  have H : (if (l0.length : Int) = (l1.length : Int) then (samphireref19_Same.l0 k l0 l1 0) else (some false)) = some r := h
  clear h
  by_cases c3 : (l0.length : Int) = (l1.length : Int)
  · rw [if_pos c3] at H
    have c3b0 : ((l0.length : Int) == (l1.length : Int)) = true := beq_iff_eq.mpr c3
    have c3b1 : ((l0.length : Int) != (l1.length : Int)) = false := bne_eq_false_iff_eq.mpr c3
    have c3b2 : (l0.length == l1.length) = true := by first | simpa using c3 | (simp at c3 ⊢; omega)
    clear c3
    have H' := Aside0.mk H
    clear H
    go_enter Try.func19, Try.ntmps19
    go_wp2
    repeat (go_quiet (fail); try go_wp2)
    go_loopg [5] k (fun kq v5 w' => ∃ (x5_1 : Int), v5 = .int .i64 x5_1 ∧ Aside0 (samphireref19_Same.l0 kq l0 l1 x5_1 = some r) ∧ Aside0 (kq ≤ k) ∧ Drawn0 w w')
    case atStart => exact ⟨(0), (by first | rfl | (simp; done) | (simp [*]; done)), H', ⟨Nat.le_refl _⟩, by repeat (first | exact Drawn0.refl _ | apply Drawn0.step)⟩
    case round =>
      clear H'
      try clear c1
      try clear p2
      try clear c3
      try clear c3b0
      try clear c3b1
      try clear c3b2
      obtain ⟨x5_1, rfl, HA, HK1, ⟨m1, rfl⟩⟩ := hrel
      cases gk with
      | zero => exact absurd HA.out (by simp [samphireref19_Same.l0])
      | succ k1 =>
        have H := HA.out
        clear HA
        simp only [samphireref19_Same.l0] at H
        by_cases c4 : x5_1 < (l0.length : Int)
        · rw [if_pos c4] at H
          have c4b0 : decide (x5_1 < (l0.length : Int)) = true := decide_eq_true c4
          clear c4
          have HC5 := Aside0.mk H
          clear H
          go_upto_region 6 with (fail)
          repeat (go_quiet (fail); go_upto_region 6 with (fail))
          go_cut [69] (fun v69 wc => ∃ (kq : Nat) (x69_4 : Bool), v69 = .bool x69_4 ∧ Aside0 (samphireref19_Same.j1 kq l0 l1 x5_1 x69_4 = some r) ∧ Aside0 (kq ≤ k1) ∧ Drawn0 w wc)
          case first =>
            have H := HC5.out
            clear HC5
            by_cases c6 : 0 ≤ x5_1
            · rw [if_pos c6] at H
              have c6b0 : decide (0 ≤ x5_1) = true := decide_eq_true c6
              clear c6
              (first | rw [c6b0] | (simp only [i64_w, i32_w]; rw [c6b0]) | skip)
              by_cases c7 : x5_1 < (l1.length : Int)
              · rw [if_pos c7] at H
                have c7b0 : decide (x5_1 < (l1.length : Int)) = true := decide_eq_true c7
                clear c7
                by_cases c8 : ((rd_T46 l0 x5_1).f0) = ((rd_T46 l1 x5_1).f0)
                · rw [if_pos c8] at H
                  have c8b0 : (((rd_T46 l0 x5_1).f0) == ((rd_T46 l1 x5_1).f0)) = true := beq_iff_eq.mpr c8
                  have c8b1 : (((rd_T46 l0 x5_1).f0) != ((rd_T46 l1 x5_1).f0)) = false := bne_eq_false_iff_eq.mpr c8
                  clear c8
                  by_cases c9 : ((rd_T46 l0 x5_1).f1).toList = ((rd_T46 l1 x5_1).f1).toList
                  · rw [if_pos c9] at H
                    have c9b0 : (((rd_T46 l0 x5_1).f1).toList == ((rd_T46 l1 x5_1).f1).toList) = true := beq_iff_eq.mpr c9
                    have c9b1 : (((rd_T46 l0 x5_1).f1).toList != ((rd_T46 l1 x5_1).f1).toList) = false := bne_eq_false_iff_eq.mpr c9
                    clear c9
                    by_cases c10 : ((rd_T46 l0 x5_1).f2).toList = ((rd_T46 l1 x5_1).f2).toList
                    · rw [if_pos c10] at H
                      have c10b0 : (((rd_T46 l0 x5_1).f2).toList == ((rd_T46 l1 x5_1).f2).toList) = true := beq_iff_eq.mpr c10
                      have c10b1 : (((rd_T46 l0 x5_1).f2).toList != ((rd_T46 l1 x5_1).f2).toList) = false := bne_eq_false_iff_eq.mpr c10
                      clear c10
                      have H' := Aside0.mk H
                      clear H
                      have p210 : 0 ≤ (x5_1 : Int) := of_decide_eq_true (by first | (with_reducible assumption) | assumption)
                      have q210 : x5_1 < (l0.length : Int) := of_decide_eq_true (by first | (with_reducible assumption) | assumption)
                      obtain ⟨ad210, A210_3, c210_3, e210, hx210_0, hx210_1, hx210_2, hx210_3, hl210_3, hi210_3⟩ := at_T46 HR0.out x5_1 p210 q210
                      cases e210
                      have HR210_3 := Aside0.mk hi210_3
                      have HC210_3 := Aside0.mk hl210_3
                      clear hi210_3 hl210_3
                      replace p210 := eq_true p210
                      replace q210 := eq_true q210
                      have p211 : 0 ≤ (x5_1 : Int) := of_decide_eq_true (by first | (with_reducible assumption) | assumption)
                      have q211 : x5_1 < (l1.length : Int) := of_decide_eq_true (by first | (with_reducible assumption) | assumption)
                      obtain ⟨ad211, A211_3, c211_3, e211, hx211_0, hx211_1, hx211_2, hx211_3, hl211_3, hi211_3⟩ := at_T46 HR1.out x5_1 p211 q211
                      cases e211
                      have HR211_3 := Aside0.mk hi211_3
                      have HC211_3 := Aside0.mk hl211_3
                      clear hi211_3 hl211_3
                      replace p211 := eq_true p211
                      replace q211 := eq_true q211
                      have p212 : 0 ≤ (x5_1 : Int) := of_decide_eq_true (by first | (with_reducible assumption) | assumption)
                      have q212 : x5_1 < (l0.length : Int) := of_decide_eq_true (by first | (with_reducible assumption) | assumption)
                      obtain ⟨ad212, A212_3, c212_3, e212, hx212_0, hx212_1, hx212_2, hx212_3, hl212_3, hi212_3⟩ := at_T46 HR0.out x5_1 p212 q212
                      obtain rfl : ad210 = ad212 := (by injection e212)
                      have HR212_3 := Aside0.mk hi212_3
                      have HC212_3 := Aside0.mk hl212_3
                      clear hi212_3 hl212_3
                      replace p212 := eq_true p212
                      replace q212 := eq_true q212
                      have ea_ := Option.some.inj (hx210_3.symm.trans hx212_3)
                      injection ea_ with ea_ en_ ec_
                      subst ea_
                      subst ec_
                      clear en_
                      have p213 : 0 ≤ (x5_1 : Int) := of_decide_eq_true (by first | (with_reducible assumption) | assumption)
                      have q213 : x5_1 < (l1.length : Int) := of_decide_eq_true (by first | (with_reducible assumption) | assumption)
                      obtain ⟨ad213, A213_3, c213_3, e213, hx213_0, hx213_1, hx213_2, hx213_3, hl213_3, hi213_3⟩ := at_T46 HR1.out x5_1 p213 q213
                      obtain rfl : ad211 = ad213 := (by injection e213)
                      have HR213_3 := Aside0.mk hi213_3
                      have HC213_3 := Aside0.mk hl213_3
                      clear hi213_3 hl213_3
                      replace p213 := eq_true p213
                      replace q213 := eq_true q213
                      have ea_ := Option.some.inj (hx211_3.symm.trans hx213_3)
                      injection ea_ with ea_ en_ ec_
                      subst ea_
                      subst ec_
                      clear en_
                      have p214 : 0 ≤ (x5_1 : Int) := of_decide_eq_true (by first | (with_reducible assumption) | assumption)
                      have q214 : x5_1 < (l0.length : Int) := of_decide_eq_true (by first | (with_reducible assumption) | assumption)
                      obtain ⟨ad214, A214_3, c214_3, e214, hx214_0, hx214_1, hx214_2, hx214_3, hl214_3, hi214_3⟩ := at_T46 HR0.out x5_1 p214 q214
                      obtain rfl : ad210 = ad214 := (by injection e214)
                      have HR214_3 := Aside0.mk hi214_3
                      have HC214_3 := Aside0.mk hl214_3
                      clear hi214_3 hl214_3
                      replace p214 := eq_true p214
                      replace q214 := eq_true q214
                      have ea_ := Option.some.inj (hx210_3.symm.trans hx214_3)
                      injection ea_ with ea_ en_ ec_
                      subst ea_
                      subst ec_
                      clear en_
                      have p215 : 0 ≤ (x5_1 : Int) := of_decide_eq_true (by first | (with_reducible assumption) | assumption)
                      have q215 : x5_1 < (l1.length : Int) := of_decide_eq_true (by first | (with_reducible assumption) | assumption)
                      obtain ⟨ad215, A215_3, c215_3, e215, hx215_0, hx215_1, hx215_2, hx215_3, hl215_3, hi215_3⟩ := at_T46 HR1.out x5_1 p215 q215
                      obtain rfl : ad211 = ad215 := (by injection e215)
                      have HR215_3 := Aside0.mk hi215_3
                      have HC215_3 := Aside0.mk hl215_3
                      clear hi215_3 hl215_3
                      replace p215 := eq_true p215
                      replace q215 := eq_true q215
                      have ea_ := Option.some.inj (hx211_3.symm.trans hx215_3)
                      injection ea_ with ea_ en_ ec_
                      subst ea_
                      subst ec_
                      clear en_
                      have p216 : 0 ≤ (x5_1 : Int) := of_decide_eq_true (by first | (with_reducible assumption) | assumption)
                      have q216 : x5_1 < (l0.length : Int) := of_decide_eq_true (by first | (with_reducible assumption) | assumption)
                      obtain ⟨ad216, A216_3, c216_3, e216, hx216_0, hx216_1, hx216_2, hx216_3, hl216_3, hi216_3⟩ := at_T46 HR0.out x5_1 p216 q216
                      obtain rfl : ad210 = ad216 := (by injection e216)
                      have HR216_3 := Aside0.mk hi216_3
                      have HC216_3 := Aside0.mk hl216_3
                      clear hi216_3 hl216_3
                      replace p216 := eq_true p216
                      replace q216 := eq_true q216
                      have ea_ := Option.some.inj (hx210_3.symm.trans hx216_3)
                      injection ea_ with ea_ en_ ec_
                      subst ea_
                      subst ec_
                      clear en_
                      have p217 : 0 ≤ (x5_1 : Int) := of_decide_eq_true (by first | (with_reducible assumption) | assumption)
                      have q217 : x5_1 < (l1.length : Int) := of_decide_eq_true (by first | (with_reducible assumption) | assumption)
                      obtain ⟨ad217, A217_3, c217_3, e217, hx217_0, hx217_1, hx217_2, hx217_3, hl217_3, hi217_3⟩ := at_T46 HR1.out x5_1 p217 q217
                      obtain rfl : ad211 = ad217 := (by injection e217)
                      have HR217_3 := Aside0.mk hi217_3
                      have HC217_3 := Aside0.mk hl217_3
                      clear hi217_3 hl217_3
                      replace p217 := eq_true p217
                      replace q217 := eq_true q217
                      have ea_ := Option.some.inj (hx211_3.symm.trans hx217_3)
                      injection ea_ with ea_ en_ ec_
                      subst ea_
                      subst ec_
                      clear en_
                      go_wp2
                      repeat (go_quiet (fail); try go_wp2)
                      go_meet
                      case rel => exact ⟨_, (((((rd_T46 l0 x5_1).f3).length : Int) != (((rd_T46 l1 x5_1).f3).length : Int))), (by first | rfl | (simp; done) | (simp [*]; done)), H', ⟨by have := HK1.out; first | omega | exact Nat.le_refl _⟩, by repeat (first | exact Drawn0.refl _ | apply Drawn0.step)⟩
                    · rw [if_neg c10] at H
                      have c10b0 : (((rd_T46 l0 x5_1).f2).toList == ((rd_T46 l1 x5_1).f2).toList) = false := beq_eq_false_iff_ne.mpr c10
                      have c10b1 : (((rd_T46 l0 x5_1).f2).toList != ((rd_T46 l1 x5_1).f2).toList) = true := bne_iff_ne.mpr c10
                      have H' := Aside0.mk H
                      clear H
                      have p210 : 0 ≤ (x5_1 : Int) := of_decide_eq_true (by first | (with_reducible assumption) | assumption)
                      have q210 : x5_1 < (l0.length : Int) := of_decide_eq_true (by first | (with_reducible assumption) | assumption)
                      obtain ⟨ad210, A210_3, c210_3, e210, hx210_0, hx210_1, hx210_2, hx210_3, hl210_3, hi210_3⟩ := at_T46 HR0.out x5_1 p210 q210
                      cases e210
                      have HR210_3 := Aside0.mk hi210_3
                      have HC210_3 := Aside0.mk hl210_3
                      clear hi210_3 hl210_3
                      replace p210 := eq_true p210
                      replace q210 := eq_true q210
                      have p211 : 0 ≤ (x5_1 : Int) := of_decide_eq_true (by first | (with_reducible assumption) | assumption)
                      have q211 : x5_1 < (l1.length : Int) := of_decide_eq_true (by first | (with_reducible assumption) | assumption)
                      obtain ⟨ad211, A211_3, c211_3, e211, hx211_0, hx211_1, hx211_2, hx211_3, hl211_3, hi211_3⟩ := at_T46 HR1.out x5_1 p211 q211
                      cases e211
                      have HR211_3 := Aside0.mk hi211_3
                      have HC211_3 := Aside0.mk hl211_3
                      clear hi211_3 hl211_3
                      replace p211 := eq_true p211
                      replace q211 := eq_true q211
                      have p212 : 0 ≤ (x5_1 : Int) := of_decide_eq_true (by first | (with_reducible assumption) | assumption)
                      have q212 : x5_1 < (l0.length : Int) := of_decide_eq_true (by first | (with_reducible assumption) | assumption)
                      obtain ⟨ad212, A212_3, c212_3, e212, hx212_0, hx212_1, hx212_2, hx212_3, hl212_3, hi212_3⟩ := at_T46 HR0.out x5_1 p212 q212
                      obtain rfl : ad210 = ad212 := (by injection e212)
                      have HR212_3 := Aside0.mk hi212_3
                      have HC212_3 := Aside0.mk hl212_3
                      clear hi212_3 hl212_3
                      replace p212 := eq_true p212
                      replace q212 := eq_true q212
                      have ea_ := Option.some.inj (hx210_3.symm.trans hx212_3)
                      injection ea_ with ea_ en_ ec_
                      subst ea_
                      subst ec_
                      clear en_
                      have p213 : 0 ≤ (x5_1 : Int) := of_decide_eq_true (by first | (with_reducible assumption) | assumption)
                      have q213 : x5_1 < (l1.length : Int) := of_decide_eq_true (by first | (with_reducible assumption) | assumption)
                      obtain ⟨ad213, A213_3, c213_3, e213, hx213_0, hx213_1, hx213_2, hx213_3, hl213_3, hi213_3⟩ := at_T46 HR1.out x5_1 p213 q213
                      obtain rfl : ad211 = ad213 := (by injection e213)
                      have HR213_3 := Aside0.mk hi213_3
                      have HC213_3 := Aside0.mk hl213_3
                      clear hi213_3 hl213_3
                      replace p213 := eq_true p213
                      replace q213 := eq_true q213
                      have ea_ := Option.some.inj (hx211_3.symm.trans hx213_3)
                      injection ea_ with ea_ en_ ec_
                      subst ea_
                      subst ec_
                      clear en_
                      have p214 : 0 ≤ (x5_1 : Int) := of_decide_eq_true (by first | (with_reducible assumption) | assumption)
                      have q214 : x5_1 < (l0.length : Int) := of_decide_eq_true (by first | (with_reducible assumption) | assumption)
                      obtain ⟨ad214, A214_3, c214_3, e214, hx214_0, hx214_1, hx214_2, hx214_3, hl214_3, hi214_3⟩ := at_T46 HR0.out x5_1 p214 q214
                      obtain rfl : ad210 = ad214 := (by injection e214)
                      have HR214_3 := Aside0.mk hi214_3
                      have HC214_3 := Aside0.mk hl214_3
                      clear hi214_3 hl214_3
                      replace p214 := eq_true p214
                      replace q214 := eq_true q214
                      have ea_ := Option.some.inj (hx210_3.symm.trans hx214_3)
                      injection ea_ with ea_ en_ ec_
                      subst ea_
                      subst ec_
                      clear en_
                      have p215 : 0 ≤ (x5_1 : Int) := of_decide_eq_true (by first | (with_reducible assumption) | assumption)
                      have q215 : x5_1 < (l1.length : Int) := of_decide_eq_true (by first | (with_reducible assumption) | assumption)
                      obtain ⟨ad215, A215_3, c215_3, e215, hx215_0, hx215_1, hx215_2, hx215_3, hl215_3, hi215_3⟩ := at_T46 HR1.out x5_1 p215 q215
                      obtain rfl : ad211 = ad215 := (by injection e215)
                      have HR215_3 := Aside0.mk hi215_3
                      have HC215_3 := Aside0.mk hl215_3
                      clear hi215_3 hl215_3
                      replace p215 := eq_true p215
                      replace q215 := eq_true q215
                      have ea_ := Option.some.inj (hx211_3.symm.trans hx215_3)
                      injection ea_ with ea_ en_ ec_
                      subst ea_
                      subst ec_
                      clear en_
                      go_wp2
                      repeat (go_quiet (fail); try go_wp2)
                      go_meet
                      case rel => exact ⟨_, (true), (by first | rfl | (simp; done) | (simp [*]; done)), H', ⟨by have := HK1.out; first | omega | exact Nat.le_refl _⟩, by repeat (first | exact Drawn0.refl _ | apply Drawn0.step)⟩
                  · rw [if_neg c9] at H
                    have c9b0 : (((rd_T46 l0 x5_1).f1).toList == ((rd_T46 l1 x5_1).f1).toList) = false := beq_eq_false_iff_ne.mpr c9
                    have c9b1 : (((rd_T46 l0 x5_1).f1).toList != ((rd_T46 l1 x5_1).f1).toList) = true := bne_iff_ne.mpr c9
                    have H' := Aside0.mk H
                    clear H
                    have p210 : 0 ≤ (x5_1 : Int) := of_decide_eq_true (by first | (with_reducible assumption) | assumption)
                    have q210 : x5_1 < (l0.length : Int) := of_decide_eq_true (by first | (with_reducible assumption) | assumption)
                    obtain ⟨ad210, A210_3, c210_3, e210, hx210_0, hx210_1, hx210_2, hx210_3, hl210_3, hi210_3⟩ := at_T46 HR0.out x5_1 p210 q210
                    cases e210
                    have HR210_3 := Aside0.mk hi210_3
                    have HC210_3 := Aside0.mk hl210_3
                    clear hi210_3 hl210_3
                    replace p210 := eq_true p210
                    replace q210 := eq_true q210
                    have p211 : 0 ≤ (x5_1 : Int) := of_decide_eq_true (by first | (with_reducible assumption) | assumption)
                    have q211 : x5_1 < (l1.length : Int) := of_decide_eq_true (by first | (with_reducible assumption) | assumption)
                    obtain ⟨ad211, A211_3, c211_3, e211, hx211_0, hx211_1, hx211_2, hx211_3, hl211_3, hi211_3⟩ := at_T46 HR1.out x5_1 p211 q211
                    cases e211
                    have HR211_3 := Aside0.mk hi211_3
                    have HC211_3 := Aside0.mk hl211_3
                    clear hi211_3 hl211_3
                    replace p211 := eq_true p211
                    replace q211 := eq_true q211
                    have p212 : 0 ≤ (x5_1 : Int) := of_decide_eq_true (by first | (with_reducible assumption) | assumption)
                    have q212 : x5_1 < (l0.length : Int) := of_decide_eq_true (by first | (with_reducible assumption) | assumption)
                    obtain ⟨ad212, A212_3, c212_3, e212, hx212_0, hx212_1, hx212_2, hx212_3, hl212_3, hi212_3⟩ := at_T46 HR0.out x5_1 p212 q212
                    obtain rfl : ad210 = ad212 := (by injection e212)
                    have HR212_3 := Aside0.mk hi212_3
                    have HC212_3 := Aside0.mk hl212_3
                    clear hi212_3 hl212_3
                    replace p212 := eq_true p212
                    replace q212 := eq_true q212
                    have ea_ := Option.some.inj (hx210_3.symm.trans hx212_3)
                    injection ea_ with ea_ en_ ec_
                    subst ea_
                    subst ec_
                    clear en_
                    have p213 : 0 ≤ (x5_1 : Int) := of_decide_eq_true (by first | (with_reducible assumption) | assumption)
                    have q213 : x5_1 < (l1.length : Int) := of_decide_eq_true (by first | (with_reducible assumption) | assumption)
                    obtain ⟨ad213, A213_3, c213_3, e213, hx213_0, hx213_1, hx213_2, hx213_3, hl213_3, hi213_3⟩ := at_T46 HR1.out x5_1 p213 q213
                    obtain rfl : ad211 = ad213 := (by injection e213)
                    have HR213_3 := Aside0.mk hi213_3
                    have HC213_3 := Aside0.mk hl213_3
                    clear hi213_3 hl213_3
                    replace p213 := eq_true p213
                    replace q213 := eq_true q213
                    have ea_ := Option.some.inj (hx211_3.symm.trans hx213_3)
                    injection ea_ with ea_ en_ ec_
                    subst ea_
                    subst ec_
                    clear en_
                    go_wp2
                    repeat (go_quiet (fail); try go_wp2)
                    go_meet
                    case rel => exact ⟨_, (true), (by first | rfl | (simp; done) | (simp [*]; done)), H', ⟨by have := HK1.out; first | omega | exact Nat.le_refl _⟩, by repeat (first | exact Drawn0.refl _ | apply Drawn0.step)⟩
                · rw [if_neg c8] at H
                  have c8b0 : (((rd_T46 l0 x5_1).f0) == ((rd_T46 l1 x5_1).f0)) = false := beq_eq_false_iff_ne.mpr c8
                  have c8b1 : (((rd_T46 l0 x5_1).f0) != ((rd_T46 l1 x5_1).f0)) = true := bne_iff_ne.mpr c8
                  have H' := Aside0.mk H
                  clear H
                  have p210 : 0 ≤ (x5_1 : Int) := of_decide_eq_true (by first | (with_reducible assumption) | assumption)
                  have q210 : x5_1 < (l0.length : Int) := of_decide_eq_true (by first | (with_reducible assumption) | assumption)
                  obtain ⟨ad210, A210_3, c210_3, e210, hx210_0, hx210_1, hx210_2, hx210_3, hl210_3, hi210_3⟩ := at_T46 HR0.out x5_1 p210 q210
                  cases e210
                  have HR210_3 := Aside0.mk hi210_3
                  have HC210_3 := Aside0.mk hl210_3
                  clear hi210_3 hl210_3
                  replace p210 := eq_true p210
                  replace q210 := eq_true q210
                  have p211 : 0 ≤ (x5_1 : Int) := of_decide_eq_true (by first | (with_reducible assumption) | assumption)
                  have q211 : x5_1 < (l1.length : Int) := of_decide_eq_true (by first | (with_reducible assumption) | assumption)
                  obtain ⟨ad211, A211_3, c211_3, e211, hx211_0, hx211_1, hx211_2, hx211_3, hl211_3, hi211_3⟩ := at_T46 HR1.out x5_1 p211 q211
                  cases e211
                  have HR211_3 := Aside0.mk hi211_3
                  have HC211_3 := Aside0.mk hl211_3
                  clear hi211_3 hl211_3
                  replace p211 := eq_true p211
                  replace q211 := eq_true q211
                  go_wp2
                  repeat (go_quiet (fail); try go_wp2)
                  go_meet
                  case rel => exact ⟨_, (true), (by first | rfl | (simp; done) | (simp [*]; done)), H', ⟨by have := HK1.out; first | omega | exact Nat.le_refl _⟩, by repeat (first | exact Drawn0.refl _ | apply Drawn0.step)⟩
              · rw [if_neg c7] at H
                exact absurd H (by simp)
            · rw [if_neg c6] at H
              exact absurd H (by simp)
          case rest =>
            clear HC5
            try clear c1
            try clear c2
            try clear p2
            try clear q2
            try clear hx2
            try clear c3
            try clear c3b0
            try clear c3b1
            try clear c3b2
            try clear c4
            try clear c4b0
            try clear c6
            try clear c6b0
            try clear c7
            try clear c7b0
            try clear c8
            try clear c8b0
            try clear c8b1
            try clear c9
            try clear c9b0
            try clear c9b1
            try clear c10
            try clear c10b0
            try clear c10b1
            try clear hx210_0
            try clear hx210_1
            try clear hx210_2
            try clear hx210_3
            try clear hx211_0
            try clear hx211_1
            try clear hx211_2
            try clear hx211_3
            try clear hx212_0
            try clear hx212_1
            try clear hx212_2
            try clear hx212_3
            try clear hx213_0
            try clear hx213_1
            try clear hx213_2
            try clear hx213_3
            try clear hx214_0
            try clear hx214_1
            try clear hx214_2
            try clear hx214_3
            try clear hx215_0
            try clear hx215_1
            try clear hx215_2
            try clear hx215_3
            try clear hx216_0
            try clear hx216_1
            try clear hx216_2
            try clear hx216_3
            try clear hx217_0
            try clear hx217_1
            try clear hx217_2
            try clear hx217_3
            try clear p2
            try clear p210
            try clear p211
            try clear p212
            try clear p213
            try clear p214
            try clear p215
            try clear p216
            try clear p217
            try clear q210
            try clear q211
            try clear q212
            try clear q213
            try clear q214
            try clear q215
            try clear q216
            try clear q217
            obtain ⟨kq, x69_4, rfl, HA, HJ4, ⟨mc4, rfl⟩⟩ := hcut
            cases kq with
            | zero => exact absurd HA.out (by simp [samphireref19_Same.j1])
            | succ kj4 =>
              have H := HA.out
              clear HA
              simp only [samphireref19_Same.j1] at H
              by_cases c11 : x69_4 = true
              · subst c11
                have H1 : (some false) = some r := by rw [if_pos rfl] at H; exact H
                clear H
                have H := H1
                clear H1
                obtain rfl := Option.some.inj H
                go_wp2
                repeat (go_quiet (fail); try go_wp2)
                go_ret
                exact ⟨by first | rfl | (simp; done) | (simp [*]; done), by repeat (first | exact Drawn0.refl _ | apply Drawn0.step)⟩
              · replace c11 := Bool.eq_false_iff.mpr c11
                subst c11
                have H1 : (samphireref19_Same.l1 kj4 l0 l1 x5_1 0) = some r := by rw [if_neg (show ¬ (false = true) by decide)] at H; exact H
                clear H
                have H := H1
                clear H1
                have H' := Aside0.mk H
                clear H
                go_wp2
                repeat (go_quiet (fail); try go_wp2)
                go_loopg [6] kj4 (fun kq v6 w' => ∃ (x6_3 : Int), v6 = .int .i64 x6_3 ∧ Aside0 (samphireref19_Same.l1 kq l0 l1 x5_1 x6_3 = some r) ∧ Aside0 (kq ≤ kj4) ∧ Drawn0 w w')
                case atStart => exact ⟨(0), (by first | rfl | (simp; done) | (simp [*]; done)), H', ⟨Nat.le_refl _⟩, by repeat (first | exact Drawn0.refl _ | apply Drawn0.step)⟩
                case round =>
                  clear H'
                  try clear c1
                  try clear c2
                  try clear p2
                  try clear q2
                  try clear hx2
                  try clear c3
                  try clear c3b0
                  try clear c3b1
                  try clear c3b2
                  try clear c4
                  try clear c4b0
                  try clear c6
                  try clear c6b0
                  try clear c7
                  try clear c7b0
                  try clear c8
                  try clear c8b0
                  try clear c8b1
                  try clear c9
                  try clear c9b0
                  try clear c9b1
                  try clear c10
                  try clear c10b0
                  try clear c10b1
                  try clear c11
                  try clear hx210_0
                  try clear hx210_1
                  try clear hx210_2
                  try clear hx210_3
                  try clear hx211_0
                  try clear hx211_1
                  try clear hx211_2
                  try clear hx211_3
                  try clear hx212_0
                  try clear hx212_1
                  try clear hx212_2
                  try clear hx212_3
                  try clear hx213_0
                  try clear hx213_1
                  try clear hx213_2
                  try clear hx213_3
                  try clear hx214_0
                  try clear hx214_1
                  try clear hx214_2
                  try clear hx214_3
                  try clear hx215_0
                  try clear hx215_1
                  try clear hx215_2
                  try clear hx215_3
                  try clear hx216_0
                  try clear hx216_1
                  try clear hx216_2
                  try clear hx216_3
                  try clear hx217_0
                  try clear hx217_1
                  try clear hx217_2
                  try clear hx217_3
                  try clear p2
                  try clear p210
                  try clear p211
                  try clear p212
                  try clear p213
                  try clear p214
                  try clear p215
                  try clear p216
                  try clear p217
                  try clear q2
                  try clear q210
                  try clear q211
                  try clear q212
                  try clear q213
                  try clear q214
                  try clear q215
                  try clear q216
                  try clear q217
                  obtain ⟨x6_3, rfl, HA, HK3, ⟨m3, rfl⟩⟩ := hrel
                  cases gk with
                  | zero => exact absurd HA.out (by simp [samphireref19_Same.l1])
                  | succ k3 =>
                    have H := HA.out
                    clear HA
                    simp only [samphireref19_Same.l1] at H
                    by_cases c12 : 0 ≤ x5_1
                    · rw [if_pos c12] at H
                      have c12b0 : decide (0 ≤ x5_1) = true := decide_eq_true c12
                      clear c12
                      by_cases c13 : x5_1 < (l0.length : Int)
                      · rw [if_pos c13] at H
                        have c13b0 : decide (x5_1 < (l0.length : Int)) = true := decide_eq_true c13
                        clear c13
                        by_cases c14 : x6_3 < (((rd_T46 l0 x5_1).f3).length : Int)
                        · rw [if_pos c14] at H
                          have c14b0 : decide (x6_3 < (((rd_T46 l0 x5_1).f3).length : Int)) = true := decide_eq_true c14
                          clear c14
                          by_cases c15 : 0 ≤ x6_3
                          · rw [if_pos c15] at H
                            have c15b0 : decide (0 ≤ x6_3) = true := decide_eq_true c15
                            clear c15
                            by_cases c16 : x5_1 < (l1.length : Int)
                            · rw [if_pos c16] at H
                              have c16b0 : decide (x5_1 < (l1.length : Int)) = true := decide_eq_true c16
                              clear c16
                              by_cases c17 : x6_3 < (((rd_T46 l1 x5_1).f3).length : Int)
                              · rw [if_pos c17] at H
                                have c17b0 : decide (x6_3 < (((rd_T46 l1 x5_1).f3).length : Int)) = true := decide_eq_true c17
                                clear c17
                                by_cases c18 : (rdOf ByteArray.empty ((rd_T46 l0 x5_1).f3) x6_3).toList = (rdOf ByteArray.empty ((rd_T46 l1 x5_1).f3) x6_3).toList
                                · rw [if_pos c18] at H
                                  have c18b0 : ((rdOf ByteArray.empty ((rd_T46 l0 x5_1).f3) x6_3).toList == (rdOf ByteArray.empty ((rd_T46 l1 x5_1).f3) x6_3).toList) = true := beq_iff_eq.mpr c18
                                  have c18b1 : ((rdOf ByteArray.empty ((rd_T46 l0 x5_1).f3) x6_3).toList != (rdOf ByteArray.empty ((rd_T46 l1 x5_1).f3) x6_3).toList) = false := bne_eq_false_iff_eq.mpr c18
                                  clear c18
                                  have H' := Aside0.mk H
                                  clear H
                                  have p218 : 0 ≤ (x5_1 : Int) := of_decide_eq_true (by first | (with_reducible assumption) | assumption)
                                  have q218 : x5_1 < (l0.length : Int) := of_decide_eq_true (by first | (with_reducible assumption) | assumption)
                                  obtain ⟨ad218, A218_3, c218_3, e218, hx218_0, hx218_1, hx218_2, hx218_3, hl218_3, hi218_3⟩ := at_T46 HR0.out x5_1 p218 q218
                                  cases e218
                                  have HR218_3 := Aside0.mk hi218_3
                                  have HC218_3 := Aside0.mk hl218_3
                                  clear hi218_3 hl218_3
                                  replace p218 := eq_true p218
                                  replace q218 := eq_true q218
                                  have p219 : 0 ≤ (x5_1 : Int) := of_decide_eq_true (by first | (with_reducible assumption) | assumption)
                                  have q219 : x5_1 < (l0.length : Int) := of_decide_eq_true (by first | (with_reducible assumption) | assumption)
                                  obtain ⟨ad219, A219_3, c219_3, e219, hx219_0, hx219_1, hx219_2, hx219_3, hl219_3, hi219_3⟩ := at_T46 HR0.out x5_1 p219 q219
                                  obtain rfl : ad218 = ad219 := (by injection e219)
                                  have HR219_3 := Aside0.mk hi219_3
                                  have HC219_3 := Aside0.mk hl219_3
                                  clear hi219_3 hl219_3
                                  replace p219 := eq_true p219
                                  replace q219 := eq_true q219
                                  have ea_ := Option.some.inj (hx218_3.symm.trans hx219_3)
                                  injection ea_ with ea_ en_ ec_
                                  subst ea_
                                  subst ec_
                                  clear en_
                                  have p220 : 0 ≤ (x6_3 : Int) := of_decide_eq_true (by first | (with_reducible assumption) | assumption)
                                  have q220 : x6_3 < (((rd_T46 l0 x5_1).f3).length : Int) := of_decide_eq_true (by first | (with_reducible assumption) | assumption)
                                  obtain ⟨ad220, e220, hx220_0⟩ := Kd.at_string HR219_3.out x6_3 p220 q220
                                  cases e220
                                  replace p220 := eq_true p220
                                  replace q220 := eq_true q220
                                  have p221 : 0 ≤ (x5_1 : Int) := of_decide_eq_true (by first | (with_reducible assumption) | assumption)
                                  have q221 : x5_1 < (l1.length : Int) := of_decide_eq_true (by first | (with_reducible assumption) | assumption)
                                  obtain ⟨ad221, A221_3, c221_3, e221, hx221_0, hx221_1, hx221_2, hx221_3, hl221_3, hi221_3⟩ := at_T46 HR1.out x5_1 p221 q221
                                  cases e221
                                  have HR221_3 := Aside0.mk hi221_3
                                  have HC221_3 := Aside0.mk hl221_3
                                  clear hi221_3 hl221_3
                                  replace p221 := eq_true p221
                                  replace q221 := eq_true q221
                                  have p222 : 0 ≤ (x6_3 : Int) := of_decide_eq_true (by first | (with_reducible assumption) | assumption)
                                  have q222 : x6_3 < (((rd_T46 l1 x5_1).f3).length : Int) := of_decide_eq_true (by first | (with_reducible assumption) | assumption)
                                  obtain ⟨ad222, e222, hx222_0⟩ := Kd.at_string HR221_3.out x6_3 p222 q222
                                  cases e222
                                  replace p222 := eq_true p222
                                  replace q222 := eq_true q222
                                  go_wp2
                                  repeat (go_quiet (fail); try go_wp2)
                                  go_roundg k3
                                  case measure => have := HK1.out; have := HJ4.out; have := HK3.out; omega
                                  case rel => exact ⟨(wrap64 (x6_3 + 1)), (by first | rfl | (simp; done) | (simp [*]; done)), H', ⟨by have := HK1.out; have := HJ4.out; have := HK3.out; omega⟩, by repeat (first | exact Drawn0.refl _ | apply Drawn0.step)⟩
                                · rw [if_neg c18] at H
                                  have c18b0 : ((rdOf ByteArray.empty ((rd_T46 l0 x5_1).f3) x6_3).toList == (rdOf ByteArray.empty ((rd_T46 l1 x5_1).f3) x6_3).toList) = false := beq_eq_false_iff_ne.mpr c18
                                  have c18b1 : ((rdOf ByteArray.empty ((rd_T46 l0 x5_1).f3) x6_3).toList != (rdOf ByteArray.empty ((rd_T46 l1 x5_1).f3) x6_3).toList) = true := bne_iff_ne.mpr c18
                                  obtain rfl := Option.some.inj H
                                  have p218 : 0 ≤ (x5_1 : Int) := of_decide_eq_true (by first | (with_reducible assumption) | assumption)
                                  have q218 : x5_1 < (l0.length : Int) := of_decide_eq_true (by first | (with_reducible assumption) | assumption)
                                  obtain ⟨ad218, A218_3, c218_3, e218, hx218_0, hx218_1, hx218_2, hx218_3, hl218_3, hi218_3⟩ := at_T46 HR0.out x5_1 p218 q218
                                  cases e218
                                  have HR218_3 := Aside0.mk hi218_3
                                  have HC218_3 := Aside0.mk hl218_3
                                  clear hi218_3 hl218_3
                                  replace p218 := eq_true p218
                                  replace q218 := eq_true q218
                                  have p219 : 0 ≤ (x5_1 : Int) := of_decide_eq_true (by first | (with_reducible assumption) | assumption)
                                  have q219 : x5_1 < (l0.length : Int) := of_decide_eq_true (by first | (with_reducible assumption) | assumption)
                                  obtain ⟨ad219, A219_3, c219_3, e219, hx219_0, hx219_1, hx219_2, hx219_3, hl219_3, hi219_3⟩ := at_T46 HR0.out x5_1 p219 q219
                                  obtain rfl : ad218 = ad219 := (by injection e219)
                                  have HR219_3 := Aside0.mk hi219_3
                                  have HC219_3 := Aside0.mk hl219_3
                                  clear hi219_3 hl219_3
                                  replace p219 := eq_true p219
                                  replace q219 := eq_true q219
                                  have ea_ := Option.some.inj (hx218_3.symm.trans hx219_3)
                                  injection ea_ with ea_ en_ ec_
                                  subst ea_
                                  subst ec_
                                  clear en_
                                  have p220 : 0 ≤ (x6_3 : Int) := of_decide_eq_true (by first | (with_reducible assumption) | assumption)
                                  have q220 : x6_3 < (((rd_T46 l0 x5_1).f3).length : Int) := of_decide_eq_true (by first | (with_reducible assumption) | assumption)
                                  obtain ⟨ad220, e220, hx220_0⟩ := Kd.at_string HR219_3.out x6_3 p220 q220
                                  cases e220
                                  replace p220 := eq_true p220
                                  replace q220 := eq_true q220
                                  have p221 : 0 ≤ (x5_1 : Int) := of_decide_eq_true (by first | (with_reducible assumption) | assumption)
                                  have q221 : x5_1 < (l1.length : Int) := of_decide_eq_true (by first | (with_reducible assumption) | assumption)
                                  obtain ⟨ad221, A221_3, c221_3, e221, hx221_0, hx221_1, hx221_2, hx221_3, hl221_3, hi221_3⟩ := at_T46 HR1.out x5_1 p221 q221
                                  cases e221
                                  have HR221_3 := Aside0.mk hi221_3
                                  have HC221_3 := Aside0.mk hl221_3
                                  clear hi221_3 hl221_3
                                  replace p221 := eq_true p221
                                  replace q221 := eq_true q221
                                  have p222 : 0 ≤ (x6_3 : Int) := of_decide_eq_true (by first | (with_reducible assumption) | assumption)
                                  have q222 : x6_3 < (((rd_T46 l1 x5_1).f3).length : Int) := of_decide_eq_true (by first | (with_reducible assumption) | assumption)
                                  obtain ⟨ad222, e222, hx222_0⟩ := Kd.at_string HR221_3.out x6_3 p222 q222
                                  cases e222
                                  replace p222 := eq_true p222
                                  replace q222 := eq_true q222
                                  go_wp2
                                  repeat (go_quiet (fail); try go_wp2)
                                  go_ret
                                  exact ⟨by first | rfl | (simp; done) | (simp [*]; done), by repeat (first | exact Drawn0.refl _ | apply Drawn0.step)⟩
                              · rw [if_neg c17] at H
                                exact absurd H (by simp)
                            · rw [if_neg c16] at H
                              exact absurd H (by simp)
                          · rw [if_neg c15] at H
                            exact absurd H (by simp)
                        · rw [if_neg c14] at H
                          have c14b0 : decide (x6_3 < (((rd_T46 l0 x5_1).f3).length : Int)) = false := decide_eq_false c14
                          clear c14
                          have H' := Aside0.mk H
                          clear H
                          have p218 : 0 ≤ (x5_1 : Int) := of_decide_eq_true (by first | (with_reducible assumption) | assumption)
                          have q218 : x5_1 < (l0.length : Int) := of_decide_eq_true (by first | (with_reducible assumption) | assumption)
                          obtain ⟨ad218, A218_3, c218_3, e218, hx218_0, hx218_1, hx218_2, hx218_3, hl218_3, hi218_3⟩ := at_T46 HR0.out x5_1 p218 q218
                          cases e218
                          have HR218_3 := Aside0.mk hi218_3
                          have HC218_3 := Aside0.mk hl218_3
                          clear hi218_3 hl218_3
                          replace p218 := eq_true p218
                          replace q218 := eq_true q218
                          go_wp2
                          repeat (go_quiet (fail); try go_wp2)
                          go_roundg k3
                          case measure => have := HK1.out; have := HJ4.out; have := HK3.out; omega
                          case rel => exact ⟨(wrap64 (x5_1 + 1)), (by first | rfl | (simp; done) | (simp [*]; done)), H', ⟨by have := HK1.out; have := HJ4.out; have := HK3.out; omega⟩, by repeat (first | exact Drawn0.refl _ | apply Drawn0.step)⟩
                      · rw [if_neg c13] at H
                        exact absurd H (by simp)
                    · rw [if_neg c12] at H
                      exact absurd H (by simp)
        · rw [if_neg c4] at H
          have c4b0 : decide (x5_1 < (l0.length : Int)) = false := decide_eq_false c4
          clear c4
          obtain rfl := Option.some.inj H
          go_wp2
          repeat (go_quiet (fail); try go_wp2)
          go_ret
          exact ⟨by first | rfl | (simp; done) | (simp [*]; done), by repeat (first | exact Drawn0.refl _ | apply Drawn0.step)⟩
  · rw [if_neg c3] at H
    have c3b0 : ((l0.length : Int) == (l1.length : Int)) = false := beq_eq_false_iff_ne.mpr c3
    have c3b1 : ((l0.length : Int) != (l1.length : Int)) = true := bne_iff_ne.mpr c3
    have c3b2 : (l0.length == l1.length) = false := by first | simpa using c3 | (simp at c3 ⊢; omega)
    obtain rfl := Option.some.inj H
    go_enter Try.func19, Try.ntmps19
    go_wp2
    repeat (go_quiet (fail); try go_wp2)
    go_ret
    exact ⟨by first | rfl | (simp; done) | (simp [*]; done), by repeat (first | exact Drawn0.refl _ | apply Drawn0.step)⟩

end Go.Proofs.Ytnpipaehcklnbaa.H
