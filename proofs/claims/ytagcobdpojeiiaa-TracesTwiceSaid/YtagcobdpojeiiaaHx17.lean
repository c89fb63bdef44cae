import Derived.Test.YtagcobdpojeiiaaHx0
import Derived.Test.YtagcobdpojeiiaaHx3
namespace Go.Proofs.Ytagcobdpojeiiaa.H
open Go.RowKit Go.Proofs.YtagcobdpojeiiaaW.PrintWords Go.Proofs.YtagcobdpojeiiaaW.PrintLast Go.Proofs.YtagcobdpojeiiaaW.PrintMore Go.Proofs.YtagcobdpojeiiaaW.Sq
attribute [local go_sem] max2_int min2_int max_two min_two max_three min_three max_four min_four
set_option linter.unusedVariables false
set_option linter.unusedSimpArgs false

attribute [local go_sem high] eqA78
mutual
def r22_buckets.l0 : Nat → List (S76) → List (S76) → Int → Option (Bool)
 | 0, _, _, _ => none
 | k + 1, x0, x1, x5 => if x5 < (x0.length : Int) then (if 0 ≤ x5 then (if x5 < (x1.length : Int) then (if ((rd_T76 x0 x5).f0) = ((rd_T76 x1 x5).f0) then (r22_buckets.j1 k x0 x1 x5 ((((rd_T76 x0 x5).f1).length : Int) != (((rd_T76 x1 x5).f1).length : Int))) else (r22_buckets.j1 k x0 x1 x5 true)) else (none)) else (none)) else (some true)
def r22_buckets.j1 : Nat → List (S76) → List (S76) → Int → Bool → Option (Bool)
 | 0, _, _, _, _ => none
 | k + 1, x0, x1, x5, x43 => if x43 = true then (some false) else (r22_buckets.l1 k x0 x1 x5 0)
def r22_buckets.l1 : Nat → List (S76) → List (S76) → Int → Int → Option (Bool)
 | 0, _, _, _, _ => none
 | k + 1, x0, x1, x5, x6 => if 0 ≤ x5 then (if x5 < (x0.length : Int) then (if x6 < (((rd_T76 x0 x5).f1).length : Int) then (if 0 ≤ x6 then (if x5 < (x1.length : Int) then (if x6 < (((rd_T76 x1 x5).f1).length : Int) then (if (!((((rd_T78 ((rd_T76 x0 x5).f1) x6).f0).toList) == (((rd_T78 ((rd_T76 x1 x5).f1) x6).f0).toList)) || (!(((rd_T78 ((rd_T76 x0 x5).f1) x6).f1) == ((rd_T78 ((rd_T76 x1 x5).f1) x6).f1)))) = true then (some false) else (r22_buckets.l1 k x0 x1 x5 (wrap64 (x6 + 1)))) else (none)) else (none)) else (none)) else (r22_buckets.l0 k x0 x1 (wrap64 (x5 + 1)))) else (none)) else (none)
end
def r22_buckets.f (k : Nat) (l0 : List (S76)) (l1 : List (S76)) : Option (Bool) := if (l0.length : Int) = (l1.length : Int) then (r22_buckets.l0 k l0 l1 0) else (some false)
theorem r22_buckets.mono_l : ∀ k, (∀ y0 y1 y2, LeO (r22_buckets.l0 k y0 y1 y2) (r22_buckets.l0 (k + 1) y0 y1 y2)) ∧ (∀ y0 y1 y2 y3, LeO (r22_buckets.j1 k y0 y1 y2 y3) (r22_buckets.j1 (k + 1) y0 y1 y2 y3)) ∧ (∀ y0 y1 y2 y3, LeO (r22_buckets.l1 k y0 y1 y2 y3) (r22_buckets.l1 (k + 1) y0 y1 y2 y3))
 | 0 => ⟨fun _ _ _ r h => by simp [r22_buckets.l0] at h, fun _ _ _ _ r h => by simp [r22_buckets.j1] at h, fun _ _ _ _ r h => by simp [r22_buckets.l1] at h⟩
 | k + 1 => by
  obtain ⟨ih0, ih1, ih2⟩ := r22_buckets.mono_l k
  refine ⟨?_, ?_, ?_⟩
  ·intro y0 y1 y2
   unfold r22_buckets.l0
   repeat' first
   | (with_reducible exact ih0 _ _ _)
   | (with_reducible exact ih1 _ _ _ _)
   | (with_reducible exact ih2 _ _ _ _)
   | (with_reducible exact LeO.refl _)
   | (with_reducible exact LeO.none _)
   | (with_reducible refine LeO.ite ?_ ?_)
   | (with_reducible refine LeO.bind ?_ (fun _ => ?_))
  ·intro y0 y1 y2 y3
   unfold r22_buckets.j1
   repeat' first
   | (with_reducible exact ih0 _ _ _)
   | (with_reducible exact ih1 _ _ _ _)
   | (with_reducible exact ih2 _ _ _ _)
   | (with_reducible exact LeO.refl _)
   | (with_reducible exact LeO.none _)
   | (with_reducible refine LeO.ite ?_ ?_)
   | (with_reducible refine LeO.bind ?_ (fun _ => ?_))
  ·intro y0 y1 y2 y3
   unfold r22_buckets.l1
   repeat' first
   | (with_reducible exact ih0 _ _ _)
   | (with_reducible exact ih1 _ _ _ _)
   | (with_reducible exact ih2 _ _ _ _)
   | (with_reducible exact LeO.refl _)
   | (with_reducible exact LeO.none _)
   | (with_reducible refine LeO.ite ?_ ?_)
   | (with_reducible refine LeO.bind ?_ (fun _ => ?_))
theorem r22_buckets.mono : ∀ a0 a1 k, LeO (r22_buckets.f k a0 a1) (r22_buckets.f (k + 1) a0 a1) := by
 intro a0 a1 k
 obtain ⟨ih0, ih1, ih2⟩ := r22_buckets.mono_l k
 unfold r22_buckets.f
 repeat' first
   | (with_reducible exact ih0 _ _ _)
   | (with_reducible exact ih1 _ _ _ _)
   | (with_reducible exact ih2 _ _ _ _)
   | (with_reducible exact LeO.refl _)
   | (with_reducible exact LeO.none _)
   | (with_reducible refine LeO.ite ?_ ?_)
   | (with_reducible refine LeO.bind ?_ (fun _ => ?_))
set_option maxHeartbeats 8000000 in
set_option maxRecDepth 100000 in
theorem r22_buckets.calls (k : Nat) (A0 : Option Addr) (c0 : Nat) (l0 : List (S76)) (A1 : Option Addr) (c1 : Nat) (l1 : List (S76)) (r : Bool) (w : World) (hr0 : Kd.C k76 w A0 l0.length l0) (hc0 : l0.length ≤ c0) (hr1 : Kd.C k76 w A1 l1.length l1) (hc1 : l1.length ≤ c1) (h : r22_buckets.f k l0 l1 = some r) :
  Calls Try.prog 33 #[.slice A0 l0.length c0, .slice A1 l1.length c1] w fun e w' => e = .returned (.bool r) ∧ Drawn0 w w' := by
 have hu78 := Try.underlying78;have HR0 := am hr0;have HC0 := am hc0;clear hr0 hc0;have HR1 := am hr1;have HC1 := am hc1;clear hr1 hc1;have H : (if (l0.length : Int) = (l1.length : Int) then (r22_buckets.l0 k l0 l1 0) else (some false)) = some r := h;clear h
 by_cases c3 : (l0.length : Int) = (l1.length : Int)
 rotate_left
 ·rw [if_neg c3] at H;have c3b0 : ((l0.length : Int) == (l1.length : Int)) = false := beq_eq_false_iff_ne.mpr c3;have c3b1 : ((l0.length : Int) != (l1.length : Int)) = true := bne_iff_ne.mpr c3
  have c3b2 : (l0.length == l1.length) = false := by first | simpa using c3 | (simp at c3 ⊢; omega)
  obtain rfl := Option.some.inj H
  go_enter Try.func33, Try.ntmps33
  go_wp2
  repeat (go_quiet (fail); try go_wp2)
  go_ret
  exact ⟨by first | rfl | (simp; done) | (simp [*]; done), by repeat (first | exact Drawn0.refl _ | apply Drawn0.step)⟩
 rw [if_pos c3] at H;have c3b0 : ((l0.length : Int) == (l1.length : Int)) = true := beq_iff_eq.mpr c3;have c3b1 : ((l0.length : Int) != (l1.length : Int)) = false := bne_eq_false_iff_eq.mpr c3
 have c3b2 : (l0.length == l1.length) = true := by first | simpa using c3 | (simp at c3 ⊢; omega)
 clear c3;have H' := am H;clear H
 go_enter Try.func33, Try.ntmps33
 go_wp2
 repeat (go_quiet (fail); try go_wp2)
 go_loopg [5] k (fun kq v5 w' => ∃ (x5_1 : Int), v5 = .int .i64 x5_1 ∧ Aside0 (r22_buckets.l0 kq l0 l1 x5_1 = some r) ∧ Aside0 (kq ≤ k) ∧ Drawn0 w w')
 case atStart => exact ⟨(0), eR, H', ⟨Nat.le_refl _⟩, by repeat (first | exact Drawn0.refl _ | apply Drawn0.step)⟩
 case round =>
  clear H';(try clear c1);(try clear p2);(try clear c3);(try clear c3b0);(try clear c3b1);(try clear c3b2);obtain ⟨x5_1, rfl, HA, HK1, ⟨m1, rfl⟩⟩ := hrel
  cases gk with
  | zero => exact absurd HA.out (by simp [r22_buckets.l0])
  | succ k1 =>
   have H := HA.out;clear HA
   simp only [r22_buckets.l0] at H
   by_cases c4 : x5_1 < (l0.length : Int)
   ·rw [if_pos c4] at H;have c4b0 : decide (x5_1 < (l0.length : Int)) = true := decide_eq_true c4;clear c4;have HC5 := am H;clear H
    go_upto_region 6 with (fail)
    repeat (go_quiet (fail); go_upto_region 6 with (fail))
    go_cut [43] (fun v43 wc => ∃ (kq : Nat) (x43_4 : Bool), v43 = .bool x43_4 ∧ Aside0 (r22_buckets.j1 kq l0 l1 x5_1 x43_4 = some r) ∧ Aside0 (kq ≤ k1) ∧ Drawn0 w wc)
    case first =>
     have H := HC5.out;clear HC5
     by_cases c6 : 0 ≤ x5_1
     ·rw [if_pos c6] at H;have c6b0 : decide (0 ≤ x5_1) = true := decide_eq_true c6;clear c6
      (first | rw [c6b0] | (simp only [i64_w, i32_w]; rw [c6b0]) | skip)
      by_cases c7 : x5_1 < (l1.length : Int)
      ·rw [if_pos c7] at H;have c7b0 : decide (x5_1 < (l1.length : Int)) = true := decide_eq_true c7;clear c7
       by_cases c8 : ((rd_T76 l0 x5_1).f0) = ((rd_T76 l1 x5_1).f0)
       ·rw [if_pos c8] at H;have c8b0 : (((rd_T76 l0 x5_1).f0) == ((rd_T76 l1 x5_1).f0)) = true := beq_iff_eq.mpr c8;have c8b1 : (((rd_T76 l0 x5_1).f0) != ((rd_T76 l1 x5_1).f0)) = false := bne_eq_false_iff_eq.mpr c8;clear c8;have H' := am H;clear H;have p340 : 0 ≤ (x5_1 : Int) := od;have q340 : x5_1 < (l0.length : Int) := od;obtain ⟨ad340, A340_1, c340_1, e340, hx340_0, hx340_1, hl340_1, hi340_1⟩ := at_T76 HR0.out x5_1 p340 q340;cases e340;have HR340_1 := am hi340_1;have HC340_1 := am hl340_1;clear hi340_1 hl340_1;replace p340 := eq_true p340;replace q340 := eq_true q340;have p341 : 0 ≤ (x5_1 : Int) := od;have q341 : x5_1 < (l1.length : Int) := od;obtain ⟨ad341, A341_1, c341_1, e341, hx341_0, hx341_1, hl341_1, hi341_1⟩ := at_T76 HR1.out x5_1 p341 q341;cases e341;have HR341_1 := am hi341_1;have HC341_1 := am hl341_1;clear hi341_1 hl341_1;replace p341 := eq_true p341;replace q341 := eq_true q341;have p342 : 0 ≤ (x5_1 : Int) := od;have q342 : x5_1 < (l0.length : Int) := od;obtain ⟨ad342, A342_1, c342_1, e342, hx342_0, hx342_1, hl342_1, hi342_1⟩ := at_T76 HR0.out x5_1 p342 q342;obtain rfl : ad340 = ad342 := (by injection e342);have HR342_1 := am hi342_1;have HC342_1 := am hl342_1;clear hi342_1 hl342_1;replace p342 := eq_true p342;replace q342 := eq_true q342;have ea_ := Option.some.inj (hx340_1.symm.trans hx342_1)
        injection ea_ with ea_ en_ ec_
        subst ea_;subst ec_;clear en_;have p343 : 0 ≤ (x5_1 : Int) := od;have q343 : x5_1 < (l1.length : Int) := od;obtain ⟨ad343, A343_1, c343_1, e343, hx343_0, hx343_1, hl343_1, hi343_1⟩ := at_T76 HR1.out x5_1 p343 q343;obtain rfl : ad341 = ad343 := (by injection e343);have HR343_1 := am hi343_1;have HC343_1 := am hl343_1;clear hi343_1 hl343_1;replace p343 := eq_true p343;replace q343 := eq_true q343;have ea_ := Option.some.inj (hx341_1.symm.trans hx343_1)
        injection ea_ with ea_ en_ ec_
        subst ea_;subst ec_;clear en_
        go_wp2
        repeat (go_quiet (fail); try go_wp2)
        go_meet
        case rel => exact ⟨_, (((((rd_T76 l0 x5_1).f1).length : Int) != (((rd_T76 l1 x5_1).f1).length : Int))), eR, H', ⟨by have := HK1.out; first | omega | exact Nat.le_refl _⟩, by repeat (first | exact Drawn0.refl _ | apply Drawn0.step)⟩
       ·rw [if_neg c8] at H;have c8b0 : (((rd_T76 l0 x5_1).f0) == ((rd_T76 l1 x5_1).f0)) = false := beq_eq_false_iff_ne.mpr c8;have c8b1 : (((rd_T76 l0 x5_1).f0) != ((rd_T76 l1 x5_1).f0)) = true := bne_iff_ne.mpr c8;have H' := am H;clear H;have p340 : 0 ≤ (x5_1 : Int) := od;have q340 : x5_1 < (l0.length : Int) := od;obtain ⟨ad340, A340_1, c340_1, e340, hx340_0, hx340_1, hl340_1, hi340_1⟩ := at_T76 HR0.out x5_1 p340 q340;cases e340;have HR340_1 := am hi340_1;have HC340_1 := am hl340_1;clear hi340_1 hl340_1;replace p340 := eq_true p340;replace q340 := eq_true q340;have p341 : 0 ≤ (x5_1 : Int) := od;have q341 : x5_1 < (l1.length : Int) := od;obtain ⟨ad341, A341_1, c341_1, e341, hx341_0, hx341_1, hl341_1, hi341_1⟩ := at_T76 HR1.out x5_1 p341 q341;cases e341;have HR341_1 := am hi341_1;have HC341_1 := am hl341_1;clear hi341_1 hl341_1;replace p341 := eq_true p341;replace q341 := eq_true q341
        go_wp2
        repeat (go_quiet (fail); try go_wp2)
        go_meet
        case rel => exact ⟨_, (true), eR, H', ⟨by have := HK1.out; first | omega | exact Nat.le_refl _⟩, by repeat (first | exact Drawn0.refl _ | apply Drawn0.step)⟩
      ·rw [if_neg c7] at H;exact absurd H (by simp)
     ·rw [if_neg c6] at H;exact absurd H (by simp)
    case rest =>
     clear HC5;(try clear c1);(try clear p2);(try clear c3);(try clear c3b0);(try clear c3b1);(try clear c3b2);(try clear p3);(try clear q3);(try clear hx3);(try clear c4);(try clear c4b0);(try clear c6);(try clear c6b0);(try clear c7);(try clear c7b0);(try clear c8);(try clear c8b0);(try clear c8b1);(try clear hx340_0);(try clear hx340_1);(try clear hx341_0);(try clear hx341_1);(try clear hx342_0);(try clear hx342_1);(try clear hx343_0);(try clear hx343_1);(try clear p2);(try clear p340);(try clear p341);(try clear p342);(try clear p343);(try clear q340);(try clear q341);(try clear q342);(try clear q343);obtain ⟨kq, x43_4, rfl, HA, HJ4, ⟨mc4, rfl⟩⟩ := hcut
     cases kq with
     | zero => exact absurd HA.out (by simp [r22_buckets.j1])
     | succ kj4 =>
      have H := HA.out;clear HA
      simp only [r22_buckets.j1] at H
      by_cases c9 : x43_4 = true
      ·subst c9
       have H1 : (some false) = some r := by rw [if_pos rfl] at H; exact H
       clear H;have H := H1;clear H1;obtain rfl := Option.some.inj H
       go_wp2
       repeat (go_quiet (fail); try go_wp2)
       go_ret
       exact ⟨by first | rfl | (simp; done) | (simp [*]; done), by repeat (first | exact Drawn0.refl _ | apply Drawn0.step)⟩
      ·replace c9 := Bool.eq_false_iff.mpr c9;subst c9
       have H1 : (r22_buckets.l1 kj4 l0 l1 x5_1 0) = some r := by rw [if_neg (show ¬ (false = true) by decide)] at H; exact H
       clear H;have H := H1;clear H1;have H' := am H;clear H
       go_wp2
       repeat (go_quiet (fail); try go_wp2)
       go_loopg [6] kj4 (fun kq v6 w' => ∃ (x6_3 : Int), v6 = .int .i64 x6_3 ∧ Aside0 (r22_buckets.l1 kq l0 l1 x5_1 x6_3 = some r) ∧ Aside0 (kq ≤ kj4) ∧ Drawn0 w w')
       case atStart => exact ⟨(0), eR, H', ⟨Nat.le_refl _⟩, by repeat (first | exact Drawn0.refl _ | apply Drawn0.step)⟩
       case round =>
        clear H';(try clear c1);(try clear p2);(try clear c3);(try clear c3b0);(try clear c3b1);(try clear c3b2);(try clear p3);(try clear q3);(try clear hx3);(try clear c4);(try clear c4b0);(try clear c6);(try clear c6b0);(try clear c7);(try clear c7b0);(try clear c8);(try clear c8b0);(try clear c8b1);(try clear c9);(try clear hx340_0);(try clear hx340_1);(try clear hx341_0);(try clear hx341_1);(try clear hx342_0);(try clear hx342_1);(try clear hx343_0);(try clear hx343_1);(try clear p2);(try clear p3);(try clear p340);(try clear p341);(try clear p342);(try clear p343);(try clear q3);(try clear q340);(try clear q341);(try clear q342);(try clear q343);obtain ⟨x6_3, rfl, HA, HK3, ⟨m3, rfl⟩⟩ := hrel
        cases gk with
        | zero => exact absurd HA.out (by simp [r22_buckets.l1])
        | succ k3 =>
         have H := HA.out;clear HA
         simp only [r22_buckets.l1] at H
         by_cases c10 : 0 ≤ x5_1
         ·rw [if_pos c10] at H;have c10b0 : decide (0 ≤ x5_1) = true := decide_eq_true c10;clear c10
          by_cases c11 : x5_1 < (l0.length : Int)
          ·rw [if_pos c11] at H;have c11b0 : decide (x5_1 < (l0.length : Int)) = true := decide_eq_true c11;clear c11
           by_cases c12 : x6_3 < (((rd_T76 l0 x5_1).f1).length : Int)
           ·rw [if_pos c12] at H;have c12b0 : decide (x6_3 < (((rd_T76 l0 x5_1).f1).length : Int)) = true := decide_eq_true c12;clear c12
            by_cases c13 : 0 ≤ x6_3
            ·rw [if_pos c13] at H;have c13b0 : decide (0 ≤ x6_3) = true := decide_eq_true c13;clear c13
             by_cases c14 : x5_1 < (l1.length : Int)
             ·rw [if_pos c14] at H;have c14b0 : decide (x5_1 < (l1.length : Int)) = true := decide_eq_true c14;clear c14
              by_cases c15 : x6_3 < (((rd_T76 l1 x5_1).f1).length : Int)
              ·rw [if_pos c15] at H;have c15b0 : decide (x6_3 < (((rd_T76 l1 x5_1).f1).length : Int)) = true := decide_eq_true c15;clear c15
               by_cases c16 : (!((((rd_T78 ((rd_T76 l0 x5_1).f1) x6_3).f0).toList) == (((rd_T78 ((rd_T76 l1 x5_1).f1) x6_3).f0).toList)) || (!(((rd_T78 ((rd_T76 l0 x5_1).f1) x6_3).f1) == ((rd_T78 ((rd_T76 l1 x5_1).f1) x6_3).f1)))) = true
               ·rw [if_pos c16] at H;have c16b0 : (!((((rd_T78 ((rd_T76 l0 x5_1).f1) x6_3).f0).toList) == (((rd_T78 ((rd_T76 l1 x5_1).f1) x6_3).f0).toList)) || (!(((rd_T78 ((rd_T76 l0 x5_1).f1) x6_3).f1) == ((rd_T78 ((rd_T76 l1 x5_1).f1) x6_3).f1)))) = true := c16;clear c16;obtain rfl := Option.some.inj H;have p344 : 0 ≤ (x5_1 : Int) := od;have q344 : x5_1 < (l0.length : Int) := od;obtain ⟨ad344, A344_1, c344_1, e344, hx344_0, hx344_1, hl344_1, hi344_1⟩ := at_T76 HR0.out x5_1 p344 q344;cases e344;have HR344_1 := am hi344_1;have HC344_1 := am hl344_1;clear hi344_1 hl344_1;replace p344 := eq_true p344;replace q344 := eq_true q344;have p345 : 0 ≤ (x5_1 : Int) := od;have q345 : x5_1 < (l0.length : Int) := od;obtain ⟨ad345, A345_1, c345_1, e345, hx345_0, hx345_1, hl345_1, hi345_1⟩ := at_T76 HR0.out x5_1 p345 q345;obtain rfl : ad344 = ad345 := (by injection e345);have HR345_1 := am hi345_1;have HC345_1 := am hl345_1;clear hi345_1 hl345_1;replace p345 := eq_true p345;replace q345 := eq_true q345;have ea_ := Option.some.inj (hx344_1.symm.trans hx345_1)
                injection ea_ with ea_ en_ ec_
                subst ea_;subst ec_;clear en_;have p346 : 0 ≤ (x6_3 : Int) := od;have q346 : x6_3 < (((rd_T76 l0 x5_1).f1).length : Int) := od;obtain ⟨ad346, e346, hx346_0, hx346_1⟩ := at_T78 HR345_1.out x6_3 p346 q346;cases e346;replace p346 := eq_true p346;replace q346 := eq_true q346;have p347 : 0 ≤ (x5_1 : Int) := od;have q347 : x5_1 < (l1.length : Int) := od;obtain ⟨ad347, A347_1, c347_1, e347, hx347_0, hx347_1, hl347_1, hi347_1⟩ := at_T76 HR1.out x5_1 p347 q347;cases e347;have HR347_1 := am hi347_1;have HC347_1 := am hl347_1;clear hi347_1 hl347_1;replace p347 := eq_true p347;replace q347 := eq_true q347;have p348 : 0 ≤ (x6_3 : Int) := od;have q348 : x6_3 < (((rd_T76 l1 x5_1).f1).length : Int) := od;obtain ⟨ad348, e348, hx348_0, hx348_1⟩ := at_T78 HR347_1.out x6_3 p348 q348;cases e348;replace p348 := eq_true p348;replace q348 := eq_true q348
                go_wp2
                repeat (go_quiet (fail); try go_wp2)
                go_ret
                exact ⟨by first | rfl | (simp; done) | (simp [*]; done), by repeat (first | exact Drawn0.refl _ | apply Drawn0.step)⟩
               ·rw [if_neg c16] at H
                have c16b0 : (!((((rd_T78 ((rd_T76 l0 x5_1).f1) x6_3).f0).toList) == (((rd_T78 ((rd_T76 l1 x5_1).f1) x6_3).f0).toList)) || (!(((rd_T78 ((rd_T76 l0 x5_1).f1) x6_3).f1) == ((rd_T78 ((rd_T76 l1 x5_1).f1) x6_3).f1)))) = false := by simpa using c16
                clear c16;have H' := am H;clear H;have p344 : 0 ≤ (x5_1 : Int) := od;have q344 : x5_1 < (l0.length : Int) := od;obtain ⟨ad344, A344_1, c344_1, e344, hx344_0, hx344_1, hl344_1, hi344_1⟩ := at_T76 HR0.out x5_1 p344 q344;cases e344;have HR344_1 := am hi344_1;have HC344_1 := am hl344_1;clear hi344_1 hl344_1;replace p344 := eq_true p344;replace q344 := eq_true q344;have p345 : 0 ≤ (x5_1 : Int) := od;have q345 : x5_1 < (l0.length : Int) := od;obtain ⟨ad345, A345_1, c345_1, e345, hx345_0, hx345_1, hl345_1, hi345_1⟩ := at_T76 HR0.out x5_1 p345 q345;obtain rfl : ad344 = ad345 := (by injection e345);have HR345_1 := am hi345_1;have HC345_1 := am hl345_1;clear hi345_1 hl345_1;replace p345 := eq_true p345;replace q345 := eq_true q345;have ea_ := Option.some.inj (hx344_1.symm.trans hx345_1)
                injection ea_ with ea_ en_ ec_
                subst ea_;subst ec_;clear en_;have p346 : 0 ≤ (x6_3 : Int) := od;have q346 : x6_3 < (((rd_T76 l0 x5_1).f1).length : Int) := od;obtain ⟨ad346, e346, hx346_0, hx346_1⟩ := at_T78 HR345_1.out x6_3 p346 q346;cases e346;replace p346 := eq_true p346;replace q346 := eq_true q346;have p347 : 0 ≤ (x5_1 : Int) := od;have q347 : x5_1 < (l1.length : Int) := od;obtain ⟨ad347, A347_1, c347_1, e347, hx347_0, hx347_1, hl347_1, hi347_1⟩ := at_T76 HR1.out x5_1 p347 q347;cases e347;have HR347_1 := am hi347_1;have HC347_1 := am hl347_1;clear hi347_1 hl347_1;replace p347 := eq_true p347;replace q347 := eq_true q347;have p348 : 0 ≤ (x6_3 : Int) := od;have q348 : x6_3 < (((rd_T76 l1 x5_1).f1).length : Int) := od;obtain ⟨ad348, e348, hx348_0, hx348_1⟩ := at_T78 HR347_1.out x6_3 p348 q348;cases e348;replace p348 := eq_true p348;replace q348 := eq_true q348
                go_wp2
                repeat (go_quiet (fail); try go_wp2)
                go_roundg k3
                case measure => have := HK1.out; have := HJ4.out; have := HK3.out; omega
                case rel => exact ⟨(wrap64 (x6_3 + 1)), eR, H', ⟨by have := HK1.out; have := HJ4.out; have := HK3.out; omega⟩, by repeat (first | exact Drawn0.refl _ | apply Drawn0.step)⟩
              ·rw [if_neg c15] at H;exact absurd H (by simp)
             ·rw [if_neg c14] at H;exact absurd H (by simp)
            ·rw [if_neg c13] at H;exact absurd H (by simp)
           ·rw [if_neg c12] at H;have c12b0 : decide (x6_3 < (((rd_T76 l0 x5_1).f1).length : Int)) = false := decide_eq_false c12;clear c12;have H' := am H;clear H;have p344 : 0 ≤ (x5_1 : Int) := od;have q344 : x5_1 < (l0.length : Int) := od;obtain ⟨ad344, A344_1, c344_1, e344, hx344_0, hx344_1, hl344_1, hi344_1⟩ := at_T76 HR0.out x5_1 p344 q344;cases e344;have HR344_1 := am hi344_1;have HC344_1 := am hl344_1;clear hi344_1 hl344_1;replace p344 := eq_true p344;replace q344 := eq_true q344
            go_wp2
            repeat (go_quiet (fail); try go_wp2)
            go_roundg k3
            case measure => have := HK1.out; have := HJ4.out; have := HK3.out; omega
            case rel => exact ⟨(wrap64 (x5_1 + 1)), eR, H', ⟨by have := HK1.out; have := HJ4.out; have := HK3.out; omega⟩, by repeat (first | exact Drawn0.refl _ | apply Drawn0.step)⟩
          ·rw [if_neg c11] at H;exact absurd H (by simp)
         ·rw [if_neg c10] at H;exact absurd H (by simp)
   ·rw [if_neg c4] at H;have c4b0 : decide (x5_1 < (l0.length : Int)) = false := decide_eq_false c4;clear c4;obtain rfl := Option.some.inj H
    go_wp2
    repeat (go_quiet (fail); try go_wp2)
    go_ret
    exact ⟨by first | rfl | (simp; done) | (simp [*]; done), by repeat (first | exact Drawn0.refl _ | apply Drawn0.step)⟩
end Go.Proofs.Ytagcobdpojeiiaa.H
