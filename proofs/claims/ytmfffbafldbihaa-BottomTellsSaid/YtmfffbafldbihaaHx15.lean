import Derived.Test.YtmfffbafldbihaaHx0
import Derived.Test.YtmfffbafldbihaaHx3
import Derived.Test.YtmfffbafldbihaaHx6
namespace Go.Proofs.Ytmfffbafldbihaa.H
open Go.RowKit Go.Proofs.YtmfffbafldbihaaW.PrintWords Go.Proofs.YtmfffbafldbihaaW.PrintLast Go.Proofs.YtmfffbafldbihaaW.PrintMore Go.Proofs.YtmfffbafldbihaaW.Sq
attribute [local go_sem] max2_int min2_int max_two min_two max_three min_three max_four min_four
set_option linter.unusedVariables false
set_option linter.unusedSimpArgs false

attribute [local go_sem high] eqA24 eqA60
def r14_Same.l0 : Nat → List (S60) → List (S60) → Int → Option (Bool)
 | 0, _, _, _ => none
 | k + 1, x0, x1, x5 => if x5 < (x0.length : Int) then (if 0 ≤ x5 then (if x5 < (x1.length : Int) then (if (!((((rd_T60 x0 x5).f0).toList) == (((rd_T60 x1 x5).f0).toList)) || (!(((rd_T60 x0 x5).f1) == ((rd_T60 x1 x5).f1)) || ((!(((rd_T60 x0 x5).f2.f0) == ((rd_T60 x1 x5).f2.f0)) || (!(((rd_T60 x0 x5).f2.f1) == ((rd_T60 x1 x5).f2.f1))))))) = true then (some false) else (r14_Same.l0 k x0 x1 (wrap64 (x5 + 1)))) else (none)) else (none)) else (some true)
def r14_Same.f (k : Nat) (l0 : List (S60)) (l1 : List (S60)) : Option (Bool) := if (l0.length : Int) = (l1.length : Int) then (r14_Same.l0 k l0 l1 0) else (some false)
theorem r14_Same.mono_l : ∀ k, (∀ y0 y1 y2, LeO (r14_Same.l0 k y0 y1 y2) (r14_Same.l0 (k + 1) y0 y1 y2))
 | 0 => fun _ _ _ r h => by simp [r14_Same.l0] at h
 | k + 1 => by
  have ih0 := r14_Same.mono_l k
  ·intro y0 y1 y2
   unfold r14_Same.l0
   repeat' first
   | (with_reducible exact ih0 _ _ _)
   | (with_reducible exact LeO.refl _)
   | (with_reducible exact LeO.none _)
   | (with_reducible refine LeO.ite ?_ ?_)
   | (with_reducible refine LeO.bind ?_ (fun _ => ?_))
theorem r14_Same.mono : ∀ a0 a1 k, LeO (r14_Same.f k a0 a1) (r14_Same.f (k + 1) a0 a1) := by
 intro a0 a1 k
 have ih0 := r14_Same.mono_l k
 unfold r14_Same.f
 repeat' first
   | (with_reducible exact ih0 _ _ _)
   | (with_reducible exact LeO.refl _)
   | (with_reducible exact LeO.none _)
   | (with_reducible refine LeO.ite ?_ ?_)
   | (with_reducible refine LeO.bind ?_ (fun _ => ?_))
set_option maxHeartbeats 8000000 in
set_option maxRecDepth 100000 in
theorem r14_Same.calls (k : Nat) (A0 : Option Addr) (c0 : Nat) (l0 : List (S60)) (A1 : Option Addr) (c1 : Nat) (l1 : List (S60)) (r : Bool) (w : World) (hr0 : Kd.C k60 w A0 l0.length l0) (hc0 : l0.length ≤ c0) (hr1 : Kd.C k60 w A1 l1.length l1) (hc1 : l1.length ≤ c1) (h : r14_Same.f k l0 l1 = some r) :
  Calls Try.prog 29 #[.slice A0 l0.length c0, .slice A1 l1.length c1] w fun e w' => e = .returned (.bool r) ∧ Drawn0 w w' := by
 have hu60 := Try.underlying60;have HR0 := am hr0;have HC0 := am hc0;clear hr0 hc0;have HR1 := am hr1;have HC1 := am hc1;clear hr1 hc1;have H : (if (l0.length : Int) = (l1.length : Int) then (r14_Same.l0 k l0 l1 0) else (some false)) = some r := h;clear h
 by_cases c3 : (l0.length : Int) = (l1.length : Int)
 rotate_left
 ·rw [if_neg c3] at H;have c3b0 : ((l0.length : Int) == (l1.length : Int)) = false := beq_eq_false_iff_ne.mpr c3;have c3b1 : ((l0.length : Int) != (l1.length : Int)) = true := bne_iff_ne.mpr c3
  have c3b2 : (l0.length == l1.length) = false := by first | simpa using c3 | (simp at c3 ⊢; omega)
  obtain rfl := Option.some.inj H
  go_enter Try.func29, Try.ntmps29
  go_wp2
  repeat (go_quiet (fail); try go_wp2)
  go_ret
  exact ⟨by first | rfl | (simp; done) | (simp [*]; done), by repeat (first | exact Drawn0.refl _ | apply Drawn0.step)⟩
 rw [if_pos c3] at H;have c3b0 : ((l0.length : Int) == (l1.length : Int)) = true := beq_iff_eq.mpr c3;have c3b1 : ((l0.length : Int) != (l1.length : Int)) = false := bne_eq_false_iff_eq.mpr c3
 have c3b2 : (l0.length == l1.length) = true := by first | simpa using c3 | (simp at c3 ⊢; omega)
 clear c3;have H' := am H;clear H
 go_enter Try.func29, Try.ntmps29
 go_wp2
 repeat (go_quiet (fail); try go_wp2)
 go_loopg [5] k (fun kq v5 w' => ∃ (x5_1 : Int), v5 = .int .i64 x5_1 ∧ Aside0 (r14_Same.l0 kq l0 l1 x5_1 = some r) ∧ Aside0 (kq ≤ k) ∧ Drawn0 w w')
 case atStart => exact ⟨(0), (by first | rfl | (simp; done) | (simp [*]; done)), H', ⟨Nat.le_refl _⟩, by repeat (first | exact Drawn0.refl _ | apply Drawn0.step)⟩
 case round =>
  clear H';(try clear c1);(try clear c2);(try clear p2);(try clear c3);(try clear c3b0);(try clear c3b1);(try clear c3b2);obtain ⟨x5_1, rfl, HA, HK1, ⟨m1, rfl⟩⟩ := hrel
  cases gk with
  | zero => exact absurd HA.out (by simp [r14_Same.l0])
  | succ k1 =>
   have H := HA.out;clear HA
   simp only [r14_Same.l0] at H
   by_cases c4 : x5_1 < (l0.length : Int)
   ·rw [if_pos c4] at H;have c4b0 : decide (x5_1 < (l0.length : Int)) = true := decide_eq_true c4;clear c4
    by_cases c5 : 0 ≤ x5_1
    ·rw [if_pos c5] at H;have c5b0 : decide (0 ≤ x5_1) = true := decide_eq_true c5;clear c5
     by_cases c6 : x5_1 < (l1.length : Int)
     ·rw [if_pos c6] at H;have c6b0 : decide (x5_1 < (l1.length : Int)) = true := decide_eq_true c6;clear c6
      by_cases c7 : (!((((rd_T60 l0 x5_1).f0).toList) == (((rd_T60 l1 x5_1).f0).toList)) || (!(((rd_T60 l0 x5_1).f1) == ((rd_T60 l1 x5_1).f1)) || ((!(((rd_T60 l0 x5_1).f2.f0) == ((rd_T60 l1 x5_1).f2.f0)) || (!(((rd_T60 l0 x5_1).f2.f1) == ((rd_T60 l1 x5_1).f2.f1))))))) = true
      ·rw [if_pos c7] at H;have c7b0 : (!((((rd_T60 l0 x5_1).f0).toList) == (((rd_T60 l1 x5_1).f0).toList)) || (!(((rd_T60 l0 x5_1).f1) == ((rd_T60 l1 x5_1).f1)) || ((!(((rd_T60 l0 x5_1).f2.f0) == ((rd_T60 l1 x5_1).f2.f0)) || (!(((rd_T60 l0 x5_1).f2.f1) == ((rd_T60 l1 x5_1).f2.f1))))))) = true := c7;clear c7;obtain rfl := Option.some.inj H;have p284 : 0 ≤ (x5_1 : Int) := of_decide_eq_true (by first | (with_reducible assumption) | assumption);have q284 : x5_1 < (l0.length : Int) := of_decide_eq_true (by first | (with_reducible assumption) | assumption);obtain ⟨ad284, e284, hx284_0, hx284_1, hx284_2, hx284_3⟩ := at_T60 HR0.out x5_1 p284 q284;cases e284;replace p284 := eq_true p284;replace q284 := eq_true q284;have p285 : 0 ≤ (x5_1 : Int) := of_decide_eq_true (by first | (with_reducible assumption) | assumption);have q285 : x5_1 < (l1.length : Int) := of_decide_eq_true (by first | (with_reducible assumption) | assumption);obtain ⟨ad285, e285, hx285_0, hx285_1, hx285_2, hx285_3⟩ := at_T60 HR1.out x5_1 p285 q285;cases e285;replace p285 := eq_true p285;replace q285 := eq_true q285
       go_wp2
       repeat (go_quiet (fail); try go_wp2)
       go_ret
       exact ⟨by first | rfl | (simp; done) | (simp [*]; done), by repeat (first | exact Drawn0.refl _ | apply Drawn0.step)⟩
      ·rw [if_neg c7] at H
       have c7b0 : (!((((rd_T60 l0 x5_1).f0).toList) == (((rd_T60 l1 x5_1).f0).toList)) || (!(((rd_T60 l0 x5_1).f1) == ((rd_T60 l1 x5_1).f1)) || ((!(((rd_T60 l0 x5_1).f2.f0) == ((rd_T60 l1 x5_1).f2.f0)) || (!(((rd_T60 l0 x5_1).f2.f1) == ((rd_T60 l1 x5_1).f2.f1))))))) = false := by simpa using c7
       clear c7;have H' := am H;clear H;have p284 : 0 ≤ (x5_1 : Int) := of_decide_eq_true (by first | (with_reducible assumption) | assumption);have q284 : x5_1 < (l0.length : Int) := of_decide_eq_true (by first | (with_reducible assumption) | assumption);obtain ⟨ad284, e284, hx284_0, hx284_1, hx284_2, hx284_3⟩ := at_T60 HR0.out x5_1 p284 q284;cases e284;replace p284 := eq_true p284;replace q284 := eq_true q284;have p285 : 0 ≤ (x5_1 : Int) := of_decide_eq_true (by first | (with_reducible assumption) | assumption);have q285 : x5_1 < (l1.length : Int) := of_decide_eq_true (by first | (with_reducible assumption) | assumption);obtain ⟨ad285, e285, hx285_0, hx285_1, hx285_2, hx285_3⟩ := at_T60 HR1.out x5_1 p285 q285;cases e285;replace p285 := eq_true p285;replace q285 := eq_true q285
       go_wp2
       repeat (go_quiet (fail); try go_wp2)
       go_roundg k1
       case measure => have := HK1.out; omega
       case rel => exact ⟨(wrap64 (x5_1 + 1)), (by first | rfl | (simp; done) | (simp [*]; done)), H', ⟨by have := HK1.out; omega⟩, by repeat (first | exact Drawn0.refl _ | apply Drawn0.step)⟩
     ·rw [if_neg c6] at H;exact absurd H (by simp)
    ·rw [if_neg c5] at H;exact absurd H (by simp)
   ·rw [if_neg c4] at H;have c4b0 : decide (x5_1 < (l0.length : Int)) = false := decide_eq_false c4;clear c4;obtain rfl := Option.some.inj H
    go_wp2
    repeat (go_quiet (fail); try go_wp2)
    go_ret
    exact ⟨by first | rfl | (simp; done) | (simp [*]; done), by repeat (first | exact Drawn0.refl _ | apply Drawn0.step)⟩
def l14_same.f (k : Nat) (a0_0 : Int) (a0_1 : Int) (a0_2 : Int) (l0_3 : List (S62)) (a1_0 : Int) (a1_1 : Int) (a1_2 : Int) (l1_3 : List (S60)) : Option (Bool) := if (a0_0 == a1_0 && (a0_1 == a1_1)) = true then (if a0_2 = a1_2 then ((l14_Refs.f k l0_3).bind fun t288 => ((r14_Same.f k t288 l1_3).bind fun t291 => (some t291))) else (some false)) else (some false)
theorem l14_same.mono : ∀ a0 a1 a2 a3 a4 a5 a6 a7 k, LeO (l14_same.f k a0 a1 a2 a3 a4 a5 a6 a7) (l14_same.f (k + 1) a0 a1 a2 a3 a4 a5 a6 a7) := by
 intro a0 a1 a2 a3 a4 a5 a6 a7 k
 unfold l14_same.f
 repeat' first
   | (with_reducible exact l14_Refs.mono _ _)
   | (with_reducible exact r14_Same.mono _ _ _)
   | (with_reducible exact LeO.refl _)
   | (with_reducible exact LeO.none _)
   | (with_reducible refine LeO.ite ?_ ?_)
   | (with_reducible refine LeO.bind ?_ (fun _ => ?_))
def l14_same.T1 : Bool × List (List Nat × List Nat) := (true, [([], []), ([0], [0]), ([], []), ([2], [2]), ([1, 3], [1, 3]), ([4], [4]), ([5], [5]), ([6, 5], [5, 6]), ([5], [5]), ([8, 5], [5, 8]), ([7, 9, 5], [5, 7, 9]), ([5, 10], [5, 10]), ([11, 5], [11]), ([12], [12]), ([13, 12], [12, 13]), ([14, 12, 12], [12, 14]), ([12], [12]), ([16, 12], [12, 16]), ([15, 17, 15, 12], [12, 15, 17]), ([12, 18], [12, 18]), ([19, 18, 0, 1, 2, 3, 4, 5, 6, 7, 8, 9, 10, 11, 12, 13, 14, 15, 16, 17, 18, 19], [19])])
def l14_same.B1 : List Nat := [0, 1, 0, 4, 15, 31, 63, 127, 63, 319, 1023, 2047, 4095, 8191, 16383, 32767, 8191, 73727, 262143, 524287, 1048575]
theorem l14_same.tab1 : rtab .any (opsOf Try.f13 1) = l14_same.T1 := by kernel_rfl
theorem l14_same.bits1 : waitsOk l14_same.T1.2 l14_same.B1 = true := by kernel_rfl
set_option maxHeartbeats 8000000 in
set_option maxRecDepth 100000 in
theorem l14_same.calls (k : Nat) (a0_0 : Int) (a0_1 : Int) (a0_2 : Int) (A0_3 : Option Addr) (c0_3 : Nat) (l0_3 : List (S62)) (a1_0 : Int) (a1_1 : Int) (a1_2 : Int) (A1_3 : Option Addr) (c1_3 : Nat) (l1_3 : List (S60)) (r : Bool) (w : World) (hr0_3 : Kd.C k62 w A0_3 l0_3.length l0_3) (hc0_3 : l0_3.length ≤ c0_3) (hr1_3 : Kd.C k60 w A1_3 l1_3.length l1_3) (hc1_3 : l1_3.length ≤ c1_3) (h : l14_same.f k a0_0 a0_1 a0_2 l0_3 a1_0 a1_1 a1_2 l1_3 = some r) :
  Calls Try.prog 13 #[.agg #[.int .u64 a0_0, .int .u64 a0_1, .int .i64 a0_2, .slice A0_3 l0_3.length c0_3], .agg #[.int .u64 a1_0, .int .u64 a1_1, .int .i64 a1_2, .slice A1_3 l1_3.length c1_3]] w fun e w' => e = .returned (.bool r) ∧ Below w.heap.size w w' := by
 have hu27 := Try.underlying27;have hu30 := Try.underlying30;have hu24 := Try.underlying24;have HR0_3 := am hr0_3;have HC0_3 := am hc0_3;clear hr0_3 hc0_3;have HR1_3 := am hr1_3;have HC1_3 := am hc1_3;clear hr1_3 hc1_3;have HB := am (Below.refl w.heap.size w);have H : (if (a0_0 == a1_0 && (a0_1 == a1_1)) = true then (if a0_2 = a1_2 then ((l14_Refs.f k l0_3).bind fun t288 => ((r14_Same.f k t288 l1_3).bind fun t291 => (some t291))) else (some false)) else (some false)) = some r := h;clear h
 by_cases c3 : (a0_0 == a1_0 && (a0_1 == a1_1)) = true
 rotate_left
 ·rw [if_neg c3] at H
  have c3b0 : (a0_0 == a1_0 && (a0_1 == a1_1)) = false := by simpa using c3
  (try (have c3b1 : decide (a0_0 = a1_0 && (a0_1 == a1_1)) = false := by simpa using c3))
  (try (have c3b2 : (a0_0 == a1_0 && (a0_1 == a1_1)) = false := by simpa using c3))
  (try (have c3b3 : ¬ (a0_0 = a1_0 && (a0_1 == a1_1)) := by simpa using c3))
  clear c3;obtain rfl := Option.some.inj H
  go_enter Try.func13, Try.ntmps13
  try go_wp2_with (first | ((with_reducible refine gate_dst (N := 2) rfl ?_); refine be 2 #[.int .u64 a0_0, .int .u64 a0_1, .int .i64 a0_2, .slice A0_3 l0_3.length c0_3] 27 ?_; intro gb286 hg w15 hbox hb; have BK286 := am (hbox); have GW286 := am ((pg hg HB : w.heap.size ≤ gb286)); have GE286 := am ((pg hg HB : w.heap.size ≤ gb286)); replace HB := am (below_step (pb HB) hb); clear hb hbox hg) | ((with_reducible refine gate_dst (N := 3) rfl ?_); refine be 3 #[.int .u64 a1_0, .int .u64 a1_1, .int .i64 a1_2, .slice A1_3 l1_3.length c1_3] 30 ?_; intro gb287 hg w16 hbox hb; have BK287 := am (hbox); have GW287 := am ((pg hg HB : w.heap.size ≤ gb287)); have GE287 := am ((pg hg HB : w.heap.size ≤ gb287)); replace HB := am (below_step (pb HB) hb); obtain ⟨NB286_287, NB287_286, -, -⟩ := pm hg BK286; replace BK286 := am (blk_below (pk BK286.out) hb); clear hb hbox hg))
  replace BK286 := am (blk_drew BK286.out);replace BK287 := am (blk_drew BK287.out);replace HB := am (below_drew1 HB.out)
  refine start_ (n := 21) (S := fun w' => w'.cell? ⟨gb286, 0, none⟩ = some (.int .u64 a0_0) ∧ w'.cell? ⟨gb286, 1, none⟩ = some (.int .u64 a0_1) ∧ w'.cell? ⟨gb286, 2, none⟩ = some (.int .i64 a0_2) ∧ w'.cell? ⟨gb286, 3, none⟩ = some (.slice A0_3 l0_3.length c0_3) ∧ w'.cell? ⟨gb287, 0, none⟩ = some (.int .u64 a1_0) ∧ w'.cell? ⟨gb287, 1, none⟩ = some (.int .u64 a1_1) ∧ w'.cell? ⟨gb287, 2, none⟩ = some (.int .i64 a1_2) ∧ w'.cell? ⟨gb287, 3, none⟩ = some (.slice A1_3 l1_3.length c1_3)) (ds := []) #[false, false, false, false, false, false, false, false, false, false, false, false, false, false, false, false, false, false, false, false, false] (by kernel_rfl) rfl rfl ⟨ce BK286 0, ce BK286 1, ce BK286 2, ce BK286 3, ce BK287 0, ce BK287 1, ce BK287 2, ce BK287 3⟩ (fun hHeld => ?_); refine with_tabW l14_same.tab1 l14_same.bits1 (fun HT_ HW_ => ?_)
  generalize w16.drew = w17 at BK286 BK287 HB hHeld ⊢
  refine pu 0 ?_
  refine pu 2 ?_
  refine ta 1 hHeld ?_
  refine ta 3 hHeld ?_
  refine pu 4 ?_
  refine pu 5 ?_
  refine po 6 ?_
  refine po 7 ?_
  refine po 8 ?_
  refine po 9 ?_
  refine po 10 ?_
  refine pu 11 ?_
  refine pu 12 ?_
  refine po 13 ?_
  refine po 14 ?_
  refine po 15 ?_
  refine po 16 ?_
  refine po 17 ?_
  refine po 18 ?_
  refine pu 19 ?_
  refine pu 20 ?_
  refine done_ (done_of HT_.out (by kernel_rfl)) ?_
  try go_wp2
  go_ret
  exact ⟨by first | rfl | (simp [errW_none, errW_some] <;> rfl) | (simp [*, errW_none, errW_some] <;> rfl), pb HB⟩
 rw [if_pos c3] at H;have c3b0 : (a0_0 == a1_0 && (a0_1 == a1_1)) = true := c3
 (try (have c3b1 : decide (a0_0 = a1_0 && (a0_1 == a1_1)) = true := by simpa using c3))
 (try (have c3b2 : (a0_0 == a1_0 && (a0_1 == a1_1)) = true := by simpa using c3))
 clear c3
 by_cases c4 : a0_2 = a1_2
 rotate_left
 ·rw [if_neg c4] at H;have c4b0 : (a0_2 == a1_2) = false := beq_eq_false_iff_ne.mpr c4;have c4b1 : (a0_2 != a1_2) = true := bne_iff_ne.mpr c4;obtain rfl := Option.some.inj H
  go_enter Try.func13, Try.ntmps13
  try go_wp2_with (first | ((with_reducible refine gate_dst (N := 2) rfl ?_); refine be 2 #[.int .u64 a0_0, .int .u64 a0_1, .int .i64 a0_2, .slice A0_3 l0_3.length c0_3] 27 ?_; intro gb286 hg w12 hbox hb; have BK286 := am (hbox); have GW286 := am ((pg hg HB : w.heap.size ≤ gb286)); have GE286 := am ((pg hg HB : w.heap.size ≤ gb286)); replace HB := am (below_step (pb HB) hb); clear hb hbox hg) | ((with_reducible refine gate_dst (N := 3) rfl ?_); refine be 3 #[.int .u64 a1_0, .int .u64 a1_1, .int .i64 a1_2, .slice A1_3 l1_3.length c1_3] 30 ?_; intro gb287 hg w13 hbox hb; have BK287 := am (hbox); have GW287 := am ((pg hg HB : w.heap.size ≤ gb287)); have GE287 := am ((pg hg HB : w.heap.size ≤ gb287)); replace HB := am (below_step (pb HB) hb); obtain ⟨NB286_287, NB287_286, -, -⟩ := pm hg BK286; replace BK286 := am (blk_below (pk BK286.out) hb); clear hb hbox hg))
  replace BK286 := am (blk_drew BK286.out);replace BK287 := am (blk_drew BK287.out);replace HB := am (below_drew1 HB.out)
  refine start_ (n := 21) (S := fun w' => w'.cell? ⟨gb286, 0, none⟩ = some (.int .u64 a0_0) ∧ w'.cell? ⟨gb286, 1, none⟩ = some (.int .u64 a0_1) ∧ w'.cell? ⟨gb286, 2, none⟩ = some (.int .i64 a0_2) ∧ w'.cell? ⟨gb286, 3, none⟩ = some (.slice A0_3 l0_3.length c0_3) ∧ w'.cell? ⟨gb287, 0, none⟩ = some (.int .u64 a1_0) ∧ w'.cell? ⟨gb287, 1, none⟩ = some (.int .u64 a1_1) ∧ w'.cell? ⟨gb287, 2, none⟩ = some (.int .i64 a1_2) ∧ w'.cell? ⟨gb287, 3, none⟩ = some (.slice A1_3 l1_3.length c1_3)) (ds := []) #[false, false, false, false, false, false, false, false, false, false, false, false, false, false, false, false, false, false, false, false, false] (by kernel_rfl) rfl rfl ⟨ce BK286 0, ce BK286 1, ce BK286 2, ce BK286 3, ce BK287 0, ce BK287 1, ce BK287 2, ce BK287 3⟩ (fun hHeld => ?_); refine with_tabW l14_same.tab1 l14_same.bits1 (fun HT_ HW_ => ?_)
  generalize w13.drew = w14 at BK286 BK287 HB hHeld ⊢
  refine pu 0 ?_
  refine pu 2 ?_
  refine ta 1 hHeld ?_
  refine ta 3 hHeld ?_
  refine pu 4 ?_
  refine pu 5 ?_
  refine pu 6 ?_
  refine pu 8 ?_
  refine ta 7 hHeld ?_
  refine ta 9 hHeld ?_
  refine pu 10 ?_
  refine pu 11 ?_
  refine pu 12 ?_
  refine po 13 ?_
  refine po 14 ?_
  refine po 15 ?_
  refine po 16 ?_
  refine po 17 ?_
  refine po 18 ?_
  refine pu 19 ?_
  refine pu 20 ?_
  refine done_ (done_of HT_.out (by kernel_rfl)) ?_
  try go_wp2
  go_ret
  exact ⟨by first | rfl | (simp [errW_none, errW_some] <;> rfl) | (simp [*, errW_none, errW_some] <;> rfl), pb HB⟩
 rw [if_pos c4] at H;have c4b0 : (a0_2 == a1_2) = true := beq_iff_eq.mpr c4;have c4b1 : (a0_2 != a1_2) = false := bne_eq_false_iff_eq.mpr c4;clear c4;replace H := Option.bind_eq_some_iff.mp H;obtain ⟨t288, A50, H⟩ := H
 try dsimp only at H
 have A5 := am A50;clear A50;replace H := Option.bind_eq_some_iff.mp H;obtain ⟨t291, A60, H⟩ := H
 try dsimp only at H
 have A6 := am A60;clear A60;obtain rfl := Option.some.inj H
 go_enter Try.func13, Try.ntmps13
 try go_wp2_with (first | ((with_reducible refine gate_dst (N := 2) rfl ?_); refine be 2 #[.int .u64 a0_0, .int .u64 a0_1, .int .i64 a0_2, .slice A0_3 l0_3.length c0_3] 27 ?_; intro gb286 hg w7 hbox hb; have BK286 := am (hbox); have GW286 := am ((pg hg HB : w.heap.size ≤ gb286)); have GE286 := am ((pg hg HB : w.heap.size ≤ gb286)); replace HB := am (below_step (pb HB) hb); clear hb hbox hg) | ((with_reducible refine gate_dst (N := 3) rfl ?_); refine be 3 #[.int .u64 a1_0, .int .u64 a1_1, .int .i64 a1_2, .slice A1_3 l1_3.length c1_3] 30 ?_; intro gb287 hg w8 hbox hb; have BK287 := am (hbox); have GW287 := am ((pg hg HB : w.heap.size ≤ gb287)); have GE287 := am ((pg hg HB : w.heap.size ≤ gb287)); replace HB := am (below_step (pb HB) hb); obtain ⟨NB286_287, NB287_286, -, -⟩ := pm hg BK286; replace BK286 := am (blk_below (pk BK286.out) hb); clear hb hbox hg))
 replace BK286 := am (blk_drew BK286.out);replace BK287 := am (blk_drew BK287.out);replace HB := am (below_drew1 HB.out)
 refine start_ (n := 21) (S := fun w' => w'.cell? ⟨gb286, 0, none⟩ = some (.int .u64 a0_0) ∧ w'.cell? ⟨gb286, 1, none⟩ = some (.int .u64 a0_1) ∧ w'.cell? ⟨gb286, 2, none⟩ = some (.int .i64 a0_2) ∧ w'.cell? ⟨gb286, 3, none⟩ = some (.slice A0_3 l0_3.length c0_3) ∧ w'.cell? ⟨gb287, 0, none⟩ = some (.int .u64 a1_0) ∧ w'.cell? ⟨gb287, 1, none⟩ = some (.int .u64 a1_1) ∧ w'.cell? ⟨gb287, 2, none⟩ = some (.int .i64 a1_2) ∧ w'.cell? ⟨gb287, 3, none⟩ = some (.slice A1_3 l1_3.length c1_3)) (ds := []) #[false, false, false, false, false, false, false, false, false, false, false, false, false, false, false, false, false, false, false, false, false] (by kernel_rfl) rfl rfl ⟨ce BK286 0, ce BK286 1, ce BK286 2, ce BK286 3, ce BK287 0, ce BK287 1, ce BK287 2, ce BK287 3⟩ (fun hHeld => ?_); refine with_tabW l14_same.tab1 l14_same.bits1 (fun HT_ HW_ => ?_)
 generalize w8.drew = w9 at BK286 BK287 HB hHeld ⊢
 refine pu 0 ?_
 refine pu 2 ?_
 refine ta 1 hHeld ?_
 refine ta 3 hHeld ?_
 refine pu 4 ?_
 refine pu 5 ?_
 refine pu 6 ?_
 refine pu 8 ?_
 refine ta 7 hHeld ?_
 refine ta 9 hHeld ?_
 refine pu 10 ?_
 refine pu 11 ?_
 refine pu 12 ?_
 refine pu 13 ?_
 refine pu 16 ?_
 refine ta 14 hHeld ?_
 refine ta 17 hHeld ?_
 refine on1 15 (fun K hK => ?_)
 refine gs Try.func26 #[.slice A0_3 l0_3.length c0_3] ?_
 with_reducible refine (l14_Refs.calls k _ _ l0_3 t288 _ ?side1 ?side2 A5.out).mono ?_
 (case side1 => repeat (first | exact (Kd.C_below HR0_3.out HB.out) | (with_reducible refine Kd.C_alloc ?_ _) | (with_reducible refine Kd.C_drewN ?_ _) | (with_reducible refine Kd.C_drew ?_)))
 (case side2 => exact HC0_3.out)
 rintro e w10 ⟨v289, rfl, ho0, hb⟩
 refine ⟨_, rfl, ?_⟩
 have HO290 := am (Kd.R_lower ho0 (below_size (pb HB)));replace BK286 := am (blk_below (pk BK286.out) hb);replace BK287 := am (blk_below (pk BK287.out) hb);replace HB := am (below_step (pb HB) hb)
 (try clear hb)
 (try clear hb2)
 (try clear hk)
 (try clear hi)
 (try clear ho0)
 obtain ⟨Ao11, co11, eo11⟩ := Kd.R_slice HO290.out
 (first | subst eo11 | (injection eo11 with f1_ f2_ f3_; have f4_ := f1_.symm; have f5_ := f3_.symm; clear f1_ f2_ f3_; subst f4_; subst f5_))
 refine hK.out _ _ ⟨ce BK286 0, ce BK286 1, ce BK286 2, ce BK286 3, ce BK287 0, ce BK287 1, ce BK287 2, ce BK287 3⟩ (fun hHeld => ?_)
 clear hK K
 refine nm ?_
 refine on1 18 (fun K hK => ?_)
 refine gs Try.func29 #[.slice Ao11 t288.length co11, .slice A1_3 l1_3.length c1_3] ?_
 with_reducible refine (r14_Same.calls k _ _ t288 _ _ l1_3 t291 _ ?side1 ?side2 ?side3 ?side4 A6.out).mono ?_
 (case side1 => repeat (first | exact (Kd.R_reads' HO290.out).2.2 | (with_reducible refine Kd.C_alloc ?_ _) | (with_reducible refine Kd.C_drewN ?_ _) | (with_reducible refine Kd.C_drew ?_)))
 (case side2 => exact (Kd.R_reads' HO290.out).2.1)
 (case side3 => repeat (first | exact (Kd.C_below HR1_3.out HB.out) | (with_reducible refine Kd.C_alloc ?_ _) | (with_reducible refine Kd.C_drewN ?_ _) | (with_reducible refine Kd.C_drew ?_)))
 (case side4 => exact HC1_3.out)
 rintro e w' ⟨rfl, ⟨nd, rfl⟩⟩
 refine ⟨_, rfl, ?_⟩
 refine hK.out _ _ ⟨ce BK286 0, ce BK286 1, ce BK286 2, ce BK286 3, ce BK287 0, ce BK287 1, ce BK287 2, ce BK287 3⟩ (fun hHeld => ?_)
 clear hK K
 refine nm ?_
 refine pu 19 ?_
 refine pu 20 ?_
 refine done_ (done_of HT_.out (by kernel_rfl)) ?_
 try go_wp2
 go_ret
 exact ⟨by first | rfl | (simp [errW_none, errW_some] <;> rfl) | (simp [*, errW_none, errW_some] <;> rfl), pb HB⟩
def r05_left.f (a0 : Int) (a1 : Int) : Option (Int) := if 0 ≤ a1 then (if 0 ≤ (IntKind.u64.wrap (64 - a1)) then (some (Go.bits .or .u64 (shl .u64 a0 a1) (shr .u64 a0 (IntKind.u64.wrap (64 - a1))))) else (none)) else (none)
set_option maxHeartbeats 8000000 in
set_option maxRecDepth 100000 in
theorem r05_left.calls (a0 : Int) (a1 : Int) (r : Int) (w : World) (h : r05_left.f a0 a1 = some r) :
  Calls Try.prog 48 #[.int .u64 a0, .int .u64 a1] w fun e w' => e = .returned (.int .u64 r) ∧ Below w.heap.size w w' := by
 have HB := am (Below.refl w.heap.size w);have H : (if 0 ≤ a1 then (if 0 ≤ (IntKind.u64.wrap (64 - a1)) then (some (Go.bits .or .u64 (shl .u64 a0 a1) (shr .u64 a0 (IntKind.u64.wrap (64 - a1))))) else (none)) else (none)) = some r := h;clear h
 by_cases c3 : 0 ≤ a1
 rotate_left
 ·rw [if_neg c3] at H;exact absurd H (by simp)
 rw [if_pos c3] at H;have c3b0 := eq_true c3;have c3b1 : decide (0 ≤ a1) = true := decide_eq_true c3;clear c3;obtain ⟨ji4, hji4⟩ : ∃ j_ : Int, (shl .u64 a0 a1) = j_ := ⟨_, rfl⟩
 replace H : (if 0 ≤ (IntKind.u64.wrap (64 - a1)) then (some (Go.bits .or .u64 (ji4) (shr .u64 a0 (IntKind.u64.wrap (64 - a1))))) else (none)) = some r := by first | (rw [hji4] at H; exact H) | (simp only [hji4] at H ⊢; exact H)
 have hji4_ : (IntKind.u64.wrap (a0 * 2 ^ min a1.toNat 64)) = ji4 := hji4;have hji4z : a1 ≤ 64 → (IntKind.u64.wrap (a0 * 2 ^ a1.toNat)) = ji4 := shl_small hji4;obtain ⟨ji5, hji5⟩ : ∃ j_ : Int, (IntKind.u64.wrap (64 - a1)) = j_ := ⟨_, rfl⟩
 replace H : (if 0 ≤ (ji5) then (some (Go.bits .or .u64 (ji4) (shr .u64 a0 (ji5)))) else (none)) = some r := by first | (rw [hji5] at H; exact H) | (simp only [hji5] at H ⊢; exact H)
 by_cases c6 : 0 ≤ (ji5)
 rotate_left
 ·rw [if_neg c6] at H;exact absurd H (by simp)
 rw [if_pos c6] at H;have c6b0 := eq_true c6;have c6b1 : decide (0 ≤ (ji5)) = true := decide_eq_true c6;clear c6;obtain ⟨ji7, hji7⟩ : ∃ j_ : Int, (shr .u64 a0 (ji5)) = j_ := ⟨_, rfl⟩
 replace H : (some (Go.bits .or .u64 (ji4) (ji7))) = some r := by first | (rw [hji7] at H; exact H) | (simp only [hji7] at H ⊢; exact H)
 have hji7_ : (a0 / 2 ^ min (ji5).toNat 64) = ji7 := hji7;have hji7z : (ji5) ≤ 64 → (a0 / 2 ^ (ji5).toNat) = ji7 := shr_small hji7;obtain rfl := Option.some.inj H
 go_enter Try.func48, Try.ntmps48
 go_wp2
 go_ret
 exact ⟨by first | rfl | (simp [errW_none, errW_some] <;> rfl) | (simp only [← hji4, ← hji5, ← hji7]; first | rfl | (simp [errW_none, errW_some] <;> rfl)) | (simp [*, errW_none, errW_some] <;> rfl), pb HB⟩
end Go.Proofs.Ytmfffbafldbihaa.H
