import Derived.Test.YtpbiobbddgipkaaHx0
import Derived.Test.YtpbiobbddgipkaaHx1
import Derived.Test.YtpbiobbddgipkaaHx5
import Derived.Test.YtpbiobbddgipkaaHx6
namespace Go.Proofs.Ytpbiobbddgipkaa.H
open Go.RowKit Go.Proofs.YtpbiobbddgipkaaW.PrintWords Go.Proofs.YtpbiobbddgipkaaW.PrintLast Go.Proofs.YtpbiobbddgipkaaW.PrintMore Go.Proofs.YtpbiobbddgipkaaW.Sq
attribute [local go_sem] max2_int min2_int max_two min_two max_three min_three max_four min_four
set_option linter.unusedVariables false
set_option linter.unusedSimpArgs false

attribute [local go_sem high] eqA24
def strata_sound.f (k : Nat) (a0_0 : Int) (a0_1 : Int) (a0_2 : Int) (a0_3 : Int) (l0_4 : List (S42)) (a1_0 : ByteArray) (a1_1 : Int) (a1_2 : Int) (a1_3 : Int) (a1_4 : Int) (l1_5 : List (S87)) : Option (Bool) := if (a1_0.size : Int) ≤ 64 then ((sip_Sum.f k a0_0 a0_1 a1_0).bind fun t194 => (if a1_1 = t194 then ((bottom_Right.f k a1_2 a1_3 a1_4 l1_5).bind fun t195 => (if t195 = true then (if (a1_2 == a0_0 && (a1_3 == a0_1)) = true then (if a1_4 = a0_3 then (some (decide ((l1_5.length : Int) > 0))) else (some false)) else (some false)) else (some false))) else (some false))) else (some false)
theorem strata_sound.mono : ∀ a0 a1 a2 a3 a4 a5 a6 a7 a8 a9 a10 k, LeO (strata_sound.f k a0 a1 a2 a3 a4 a5 a6 a7 a8 a9 a10) (strata_sound.f (k + 1) a0 a1 a2 a3 a4 a5 a6 a7 a8 a9 a10) := by
 intro a0 a1 a2 a3 a4 a5 a6 a7 a8 a9 a10 k
 unfold strata_sound.f
 repeat' first
   | (with_reducible exact bottom_Right.mono _ _ _ _ _)
   | (with_reducible exact sip_Sum.mono _ _ _ _)
   | (with_reducible exact LeO.refl _)
   | (with_reducible exact LeO.none _)
   | (with_reducible refine LeO.ite ?_ ?_)
   | (with_reducible refine LeO.bind ?_ (fun _ => ?_))
def strata_sound.T1 : Bool × List (List Nat × List Nat) := (true, [([], []), ([0], [0]), ([1], [1]), ([2], [2]), ([3], [3]), ([4], [4]), ([5, 4], [4, 5]), ([4], [4]), ([7, 4], [4, 7]), ([4], [4]), ([9, 4], [4, 9]), ([8, 10, 4, 4], [4, 8, 10]), ([6, 11, 4], [4, 6, 11]), ([4, 12], [4, 12]), ([13, 11], [13]), ([14], [14]), ([15, 14], [14, 15]), ([16, 14, 14], [14, 16]), ([14, 17], [14, 17]), ([18, 17], [18]), ([19], [19]), ([20, 19], [19, 20]), ([21, 19], [19, 21]), ([19], [19]), ([23, 19], [19, 23]), ([22, 24, 19], [19, 22, 24]), ([19, 25], [19, 25]), ([26, 19], [26]), ([27], [27]), ([28, 27], [27, 28]), ([29, 27], [27, 29]), ([27], [27]), ([31, 27], [27, 31]), ([30, 32, 27], [27, 30, 32]), ([27, 33], [27, 33]), ([34, 27], [34]), ([35], [35]), ([36, 35], [35, 36]), ([37, 35], [35, 37]), ([38, 35], [35, 38]), ([39, 35], [35, 39]), ([35, 40], [35, 40]), ([41, 35, 0, 1, 2, 3, 4, 5, 6, 7, 8, 9, 10, 11, 12, 13, 14, 15, 16, 17, 18, 19, 20, 21, 22, 23, 24, 25, 26, 27, 28, 29, 30, 31, 32, 33, 34, 35, 36, 37, 38, 39, 40, 41], [41])])
def strata_sound.B1 : List Nat := [0, 1, 3, 7, 15, 31, 63, 31, 159, 31, 543, 1951, 4095, 8191, 16383, 32767, 65535, 131071, 262143, 524287, 1048575, 2097151, 4194303, 1048575, 9437183, 33554431, 67108863, 134217727, 268435455, 536870911, 1073741823, 268435455, 2415919103, 8589934591, 17179869183, 34359738367, 68719476735, 137438953471, 274877906943, 549755813887, 1099511627775, 2199023255551, 4398046511103]
theorem strata_sound.tab1 : rtab .any (opsOf Try.f38 1) = strata_sound.T1 := by kernel_rfl
theorem strata_sound.bits1 : waitsOk strata_sound.T1.2 strata_sound.B1 = true := by kernel_rfl
set_option maxHeartbeats 8000000 in
set_option maxRecDepth 100000 in
theorem strata_sound.calls (k : Nat) (a0_0 : Int) (a0_1 : Int) (a0_2 : Int) (a0_3 : Int) (A0_4 : Option Addr) (c0_4 : Nat) (l0_4 : List (S42)) (a1_0 : ByteArray) (a1_1 : Int) (a1_2 : Int) (a1_3 : Int) (a1_4 : Int) (A1_5 : Option Addr) (c1_5 : Nat) (l1_5 : List (S87)) (r : Bool) (w : World) (hr0_4 : Kd.C k42 w A0_4 l0_4.length l0_4) (hc0_4 : l0_4.length ≤ c0_4) (hr1_5 : Kd.C k87 w A1_5 l1_5.length l1_5) (hc1_5 : l1_5.length ≤ c1_5) (h : strata_sound.f k a0_0 a0_1 a0_2 a0_3 l0_4 a1_0 a1_1 a1_2 a1_3 a1_4 l1_5 = some r) :
  Calls Try.prog 38 #[.agg #[.int .u64 a0_0, .int .u64 a0_1, .int .i64 a0_2, .int .i64 a0_3, .slice A0_4 l0_4.length c0_4], .agg #[.string a1_0, .int .u64 a1_1, .int .u64 a1_2, .int .u64 a1_3, .int .i64 a1_4, .slice A1_5 l1_5.length c1_5]] w fun e w' => e = .returned (.bool r) ∧ Below w.heap.size w w' := by
 have hu28 := Try.underlying28
 have hu42 := Try.underlying42
 have hu24 := Try.underlying24
 have hu40 := Try.underlying40
 have HR0_4 := am hr0_4
 have HC0_4 := am hc0_4
 clear hr0_4 hc0_4
 have HR1_5 := am hr1_5
 have HC1_5 := am hc1_5
 clear hr1_5 hc1_5
 have HB := am (Below.refl w.heap.size w)
 have H : (if (a1_0.size : Int) ≤ 64 then ((sip_Sum.f k a0_0 a0_1 a1_0).bind fun t194 => (if a1_1 = t194 then ((bottom_Right.f k a1_2 a1_3 a1_4 l1_5).bind fun t195 => (if t195 = true then (if (a1_2 == a0_0 && (a1_3 == a0_1)) = true then (if a1_4 = a0_3 then (some (decide ((l1_5.length : Int) > 0))) else (some false)) else (some false)) else (some false))) else (some false))) else (some false)) = some r := h
 clear h
 by_cases c3 : (a1_0.size : Int) ≤ 64
 rotate_left
 ·rw [if_neg c3] at H
  have c3b0 : decide ((a1_0.size : Int) ≤ 64) = false := decide_eq_false c3
  have c3b1 : decide (a1_0.size ≤ 64) = false := decide_eq_false (by omega)
  clear c3
  obtain rfl := Option.some.inj H
  go_enter Try.func38, Try.ntmps38
  try go_wp2_with (first | ((with_reducible refine gate_dst (N := 2) rfl ?_); (try (refine gate_guard (by rfl) ?_; dsimp only)); refine be 2 #[.int .u64 a0_0, .int .u64 a0_1, .int .i64 a0_2, .int .i64 a0_3, .slice A0_4 l0_4.length c0_4] 28 ?_; intro gb192 hg w34 hbox hb; have BK192 := am (hbox); have GW192 := am ((pg hg HB : w.heap.size ≤ gb192)); have GE192 := am ((pg hg HB : w.heap.size ≤ gb192)); replace HB := am (below_step (pb HB) hb); clear hb hbox hg) | ((with_reducible refine gate_dst (N := 3) rfl ?_); (try (refine gate_guard (by rfl) ?_; dsimp only)); refine be 3 #[.string a1_0, .int .u64 a1_1, .int .u64 a1_2, .int .u64 a1_3, .int .i64 a1_4, .slice A1_5 l1_5.length c1_5] 42 ?_; intro gb193 hg w35 hbox hb; have BK193 := am (hbox); have GW193 := am ((pg hg HB : w.heap.size ≤ gb193)); have GE193 := am ((pg hg HB : w.heap.size ≤ gb193)); replace HB := am (below_step (pb HB) hb); obtain ⟨NB192_193, NB193_192, -, -⟩ := pm hg BK192; replace BK192 := am (blk_below (pk BK192.out) hb); clear hb hbox hg))
  replace BK192 := am (blk_drew BK192.out)
  replace BK193 := am (blk_drew BK193.out)
  replace HB := am (below_drew1 HB.out)
  refine start_ (n := 43) (S := fun w' => w'.cell? ⟨gb193, 0, none⟩ = some (.string a1_0) ∧ w'.cell? ⟨gb193, 1, none⟩ = some (.int .u64 a1_1) ∧ w'.cell? ⟨gb193, 2, none⟩ = some (.int .u64 a1_2) ∧ w'.cell? ⟨gb193, 3, none⟩ = some (.int .u64 a1_3) ∧ w'.cell? ⟨gb193, 4, none⟩ = some (.int .i64 a1_4) ∧ w'.cell? ⟨gb193, 5, none⟩ = some (.slice A1_5 l1_5.length c1_5)) (ds := []) #[false, false, false, false, false, false, false, false, false, false, false, false, false, false, false, false, false, false, false, false, false, false, false, false, false, false, false, false, false, false, false, false, false, false, false, false, false, false, false, false, false, false, false] (by kernel_rfl) rfl rfl ⟨ce BK193 0, ce BK193 1, ce BK193 2, ce BK193 3, ce BK193 4, ce BK193 5⟩ (fun hHeld => ?_); refine with_tabW strata_sound.tab1 strata_sound.bits1 (fun HT_ HW_ => ?_)
  generalize w35.drew = w36 at BK192 BK193 HB hHeld ⊢
  refine pu 0 ?_
  refine ta 1 hHeld ?_
  refine pu 2 ?_
  refine pu 3 ?_
  refine pu 4 ?_
  refine po 5 ?_
  refine po 6 ?_
  refine po 7 ?_
  refine po 8 ?_
  refine po 9 ?_
  refine po 10 ?_
  refine po 11 ?_
  refine po 12 ?_
  refine pu 13 ?_
  refine pu 14 ?_
  refine po 15 ?_
  refine po 16 ?_
  refine po 17 ?_
  refine pu 18 ?_
  refine pu 19 ?_
  refine po 20 ?_
  refine po 21 ?_
  refine po 22 ?_
  refine po 23 ?_
  refine po 24 ?_
  refine po 25 ?_
  refine pu 26 ?_
  refine pu 27 ?_
  refine po 28 ?_
  refine po 29 ?_
  refine po 30 ?_
  refine po 31 ?_
  refine po 32 ?_
  refine po 33 ?_
  refine pu 34 ?_
  refine pu 35 ?_
  refine po 36 ?_
  refine po 37 ?_
  refine po 38 ?_
  refine po 39 ?_
  refine po 40 ?_
  refine pu 41 ?_
  refine pu 42 ?_
  refine done_ (done_of HT_.out (by kernel_rfl)) ?_
  try go_wp2
  go_ret
  exact ⟨by first | rfl | (simp [errW_none, errW_some] <;> rfl) | (simp [*, errW_none, errW_some] <;> rfl), pb HB⟩
 rw [if_pos c3] at H
 have c3b0 : decide ((a1_0.size : Int) ≤ 64) = true := decide_eq_true c3
 have c3b1 : decide (a1_0.size ≤ 64) = true := decide_eq_true (by omega)
 clear c3
 replace H := Option.bind_eq_some_iff.mp H
 obtain ⟨t194, A40, H⟩ := H
 try dsimp only at H
 have A4 := am A40
 clear A40
 by_cases c5 : a1_1 = t194
 rotate_left
 ·rw [if_neg c5] at H
  have c5b0 : (a1_1 == t194) = false := beq_eq_false_iff_ne.mpr c5
  have c5b1 : (a1_1 != t194) = true := bne_iff_ne.mpr c5
  obtain rfl := Option.some.inj H
  go_enter Try.func38, Try.ntmps38
  try go_wp2_with (first | ((with_reducible refine gate_dst (N := 2) rfl ?_); (try (refine gate_guard (by rfl) ?_; dsimp only)); refine be 2 #[.int .u64 a0_0, .int .u64 a0_1, .int .i64 a0_2, .int .i64 a0_3, .slice A0_4 l0_4.length c0_4] 28 ?_; intro gb192 hg w30 hbox hb; have BK192 := am (hbox); have GW192 := am ((pg hg HB : w.heap.size ≤ gb192)); have GE192 := am ((pg hg HB : w.heap.size ≤ gb192)); replace HB := am (below_step (pb HB) hb); clear hb hbox hg) | ((with_reducible refine gate_dst (N := 3) rfl ?_); (try (refine gate_guard (by rfl) ?_; dsimp only)); refine be 3 #[.string a1_0, .int .u64 a1_1, .int .u64 a1_2, .int .u64 a1_3, .int .i64 a1_4, .slice A1_5 l1_5.length c1_5] 42 ?_; intro gb193 hg w31 hbox hb; have BK193 := am (hbox); have GW193 := am ((pg hg HB : w.heap.size ≤ gb193)); have GE193 := am ((pg hg HB : w.heap.size ≤ gb193)); replace HB := am (below_step (pb HB) hb); obtain ⟨NB192_193, NB193_192, -, -⟩ := pm hg BK192; replace BK192 := am (blk_below (pk BK192.out) hb); clear hb hbox hg))
  replace BK192 := am (blk_drew BK192.out)
  replace BK193 := am (blk_drew BK193.out)
  replace HB := am (below_drew1 HB.out)
  refine start_ (n := 43) (S := fun w' => w'.cell? ⟨gb193, 0, none⟩ = some (.string a1_0) ∧ w'.cell? ⟨gb193, 1, none⟩ = some (.int .u64 a1_1) ∧ w'.cell? ⟨gb193, 2, none⟩ = some (.int .u64 a1_2) ∧ w'.cell? ⟨gb193, 3, none⟩ = some (.int .u64 a1_3) ∧ w'.cell? ⟨gb193, 4, none⟩ = some (.int .i64 a1_4) ∧ w'.cell? ⟨gb193, 5, none⟩ = some (.slice A1_5 l1_5.length c1_5) ∧ w'.cell? ⟨gb192, 0, none⟩ = some (.int .u64 a0_0) ∧ w'.cell? ⟨gb192, 1, none⟩ = some (.int .u64 a0_1) ∧ w'.cell? ⟨gb192, 2, none⟩ = some (.int .i64 a0_2) ∧ w'.cell? ⟨gb192, 3, none⟩ = some (.int .i64 a0_3) ∧ w'.cell? ⟨gb192, 4, none⟩ = some (.slice A0_4 l0_4.length c0_4)) (ds := []) #[false, false, false, false, false, false, false, false, false, false, false, false, false, false, false, false, false, false, false, false, false, false, false, false, false, false, false, false, false, false, false, false, false, false, false, false, false, false, false, false, false, false, false] (by kernel_rfl) rfl rfl ⟨ce BK193 0, ce BK193 1, ce BK193 2, ce BK193 3, ce BK193 4, ce BK193 5, ce BK192 0, ce BK192 1, ce BK192 2, ce BK192 3, ce BK192 4⟩ (fun hHeld => ?_); refine with_tabW strata_sound.tab1 strata_sound.bits1 (fun HT_ HW_ => ?_)
  generalize w31.drew = w32 at BK192 BK193 HB hHeld ⊢
  refine pu 0 ?_
  refine ta 1 hHeld ?_
  refine pu 2 ?_
  refine pu 3 ?_
  refine pu 4 ?_
  refine pu 5 ?_
  refine pu 7 ?_
  refine pu 9 ?_
  refine ta 6 hHeld ?_
  refine ta 8 hHeld ?_
  refine ta 10 hHeld ?_
  refine on1 11 (fun K hK => ?_)
  refine gs Try.func33 #[.agg #[.int .u64 a0_0, .int .u64 a0_1], .string a1_0] ?_
  with_reducible refine (sip_Sum.calls k a0_0 a0_1 a1_0 t194 _ A4.out).mono ?_
  rintro e w33 ⟨rfl, hb⟩
  refine ⟨_, rfl, ?_⟩
  replace BK192 := am (blk_below (pk BK192.out) hb)
  replace BK193 := am (blk_below (pk BK193.out) hb)
  replace HB := am (below_step (pb HB) hb)
  (try clear hb)
  (try clear hb2)
  (try clear hk)
  (try clear hi)
  refine hK.out _ _ ⟨ce BK193 0, ce BK193 1, ce BK193 2, ce BK193 3, ce BK193 4, ce BK193 5, ce BK192 0, ce BK192 1, ce BK192 2, ce BK192 3, ce BK192 4⟩ (fun hHeld => ?_)
  clear hK K
  refine nm ?_
  refine pu 12 ?_
  refine pu 13 ?_
  refine pu 14 ?_
  refine po 15 ?_
  refine po 16 ?_
  refine po 17 ?_
  refine pu 18 ?_
  refine pu 19 ?_
  refine po 20 ?_
  refine po 21 ?_
  refine po 22 ?_
  refine po 23 ?_
  refine po 24 ?_
  refine po 25 ?_
  refine pu 26 ?_
  refine pu 27 ?_
  refine po 28 ?_
  refine po 29 ?_
  refine po 30 ?_
  refine po 31 ?_
  refine po 32 ?_
  refine po 33 ?_
  refine pu 34 ?_
  refine pu 35 ?_
  refine po 36 ?_
  refine po 37 ?_
  refine po 38 ?_
  refine po 39 ?_
  refine po 40 ?_
  refine pu 41 ?_
  refine pu 42 ?_
  refine done_ (done_of HT_.out (by kernel_rfl)) ?_
  try go_wp2
  go_ret
  exact ⟨by first | rfl | (simp [errW_none, errW_some] <;> rfl) | (simp [*, errW_none, errW_some] <;> rfl), pb HB⟩
 rw [if_pos c5] at H
 have c5b0 : (a1_1 == t194) = true := beq_iff_eq.mpr c5
 have c5b1 : (a1_1 != t194) = false := bne_eq_false_iff_eq.mpr c5
 clear c5
 replace H := Option.bind_eq_some_iff.mp H
 obtain ⟨t195, A60, H⟩ := H
 try dsimp only at H
 have A6 := am A60
 clear A60
 by_cases c7 : t195 = true
 rotate_left
 ·replace c7 := Bool.eq_false_iff.mpr c7
  subst c7
  have H1 : (some false) = some r := by rw [if_neg (show ¬ (false = true) by decide)] at H; exact H
  clear H
  have H := H1
  clear H1
  obtain rfl := Option.some.inj H
  go_enter Try.func38, Try.ntmps38
  try go_wp2_with (first | ((with_reducible refine gate_dst (N := 2) rfl ?_); (try (refine gate_guard (by rfl) ?_; dsimp only)); refine be 2 #[.int .u64 a0_0, .int .u64 a0_1, .int .i64 a0_2, .int .i64 a0_3, .slice A0_4 l0_4.length c0_4] 28 ?_; intro gb192 hg w25 hbox hb; have BK192 := am (hbox); have GW192 := am ((pg hg HB : w.heap.size ≤ gb192)); have GE192 := am ((pg hg HB : w.heap.size ≤ gb192)); replace HB := am (below_step (pb HB) hb); clear hb hbox hg) | ((with_reducible refine gate_dst (N := 3) rfl ?_); (try (refine gate_guard (by rfl) ?_; dsimp only)); refine be 3 #[.string a1_0, .int .u64 a1_1, .int .u64 a1_2, .int .u64 a1_3, .int .i64 a1_4, .slice A1_5 l1_5.length c1_5] 42 ?_; intro gb193 hg w26 hbox hb; have BK193 := am (hbox); have GW193 := am ((pg hg HB : w.heap.size ≤ gb193)); have GE193 := am ((pg hg HB : w.heap.size ≤ gb193)); replace HB := am (below_step (pb HB) hb); obtain ⟨NB192_193, NB193_192, -, -⟩ := pm hg BK192; replace BK192 := am (blk_below (pk BK192.out) hb); clear hb hbox hg))
  replace BK192 := am (blk_drew BK192.out)
  replace BK193 := am (blk_drew BK193.out)
  replace HB := am (below_drew1 HB.out)
  refine start_ (n := 43) (S := fun w' => w'.cell? ⟨gb193, 0, none⟩ = some (.string a1_0) ∧ w'.cell? ⟨gb193, 1, none⟩ = some (.int .u64 a1_1) ∧ w'.cell? ⟨gb193, 2, none⟩ = some (.int .u64 a1_2) ∧ w'.cell? ⟨gb193, 3, none⟩ = some (.int .u64 a1_3) ∧ w'.cell? ⟨gb193, 4, none⟩ = some (.int .i64 a1_4) ∧ w'.cell? ⟨gb193, 5, none⟩ = some (.slice A1_5 l1_5.length c1_5) ∧ w'.cell? ⟨gb192, 0, none⟩ = some (.int .u64 a0_0) ∧ w'.cell? ⟨gb192, 1, none⟩ = some (.int .u64 a0_1) ∧ w'.cell? ⟨gb192, 2, none⟩ = some (.int .i64 a0_2) ∧ w'.cell? ⟨gb192, 3, none⟩ = some (.int .i64 a0_3) ∧ w'.cell? ⟨gb192, 4, none⟩ = some (.slice A0_4 l0_4.length c0_4)) (ds := []) #[false, false, false, false, false, false, false, false, false, false, false, false, false, false, false, false, false, false, false, false, false, false, false, false, false, false, false, false, false, false, false, false, false, false, false, false, false, false, false, false, false, false, false] (by kernel_rfl) rfl rfl ⟨ce BK193 0, ce BK193 1, ce BK193 2, ce BK193 3, ce BK193 4, ce BK193 5, ce BK192 0, ce BK192 1, ce BK192 2, ce BK192 3, ce BK192 4⟩ (fun hHeld => ?_); refine with_tabW strata_sound.tab1 strata_sound.bits1 (fun HT_ HW_ => ?_)
  generalize w26.drew = w27 at BK192 BK193 HB hHeld ⊢
  refine pu 0 ?_
  refine ta 1 hHeld ?_
  refine pu 2 ?_
  refine pu 3 ?_
  refine pu 4 ?_
  refine pu 5 ?_
  refine pu 7 ?_
  refine pu 9 ?_
  refine ta 6 hHeld ?_
  refine ta 8 hHeld ?_
  refine ta 10 hHeld ?_
  refine on1 11 (fun K hK => ?_)
  refine gs Try.func33 #[.agg #[.int .u64 a0_0, .int .u64 a0_1], .string a1_0] ?_
  with_reducible refine (sip_Sum.calls k a0_0 a0_1 a1_0 t194 _ A4.out).mono ?_
  rintro e w28 ⟨rfl, hb⟩
  refine ⟨_, rfl, ?_⟩
  replace BK192 := am (blk_below (pk BK192.out) hb)
  replace BK193 := am (blk_below (pk BK193.out) hb)
  replace HB := am (below_step (pb HB) hb)
  (try clear hb)
  (try clear hb2)
  (try clear hk)
  (try clear hi)
  refine hK.out _ _ ⟨ce BK193 0, ce BK193 1, ce BK193 2, ce BK193 3, ce BK193 4, ce BK193 5, ce BK192 0, ce BK192 1, ce BK192 2, ce BK192 3, ce BK192 4⟩ (fun hHeld => ?_)
  clear hK K
  refine nm ?_
  refine pu 12 ?_
  refine pu 13 ?_
  refine pu 14 ?_
  refine pu 15 ?_
  refine ta 16 hHeld ?_
  refine on1 17 (fun K hK => ?_)
  refine gs Try.func31 #[.agg #[.int .u64 a1_2, .int .u64 a1_3, .int .i64 a1_4, .slice A1_5 l1_5.length c1_5]] ?_
  with_reducible refine (bottom_Right.calls k a1_2 a1_3 a1_4 _ _ l1_5 false _ ?side1 ?side2 A6.out).mono ?_
  (case side1 => repeat (first | exact (Kd.C_below HR1_5.out HB.out) | (with_reducible refine Kd.C_alloc ?_ _) | (with_reducible refine Kd.C_drewN ?_ _) | (with_reducible refine Kd.C_drew ?_)))
  (case side2 => exact HC1_5.out)
  rintro e w29 ⟨rfl, hb⟩
  refine ⟨_, rfl, ?_⟩
  replace BK192 := am (blk_below (pk BK192.out) hb)
  replace BK193 := am (blk_below (pk BK193.out) hb)
  replace HB := am (below_step (pb HB) hb)
  (try clear hb)
  (try clear hb2)
  (try clear hk)
  (try clear hi)
  refine hK.out _ _ ⟨ce BK193 0, ce BK193 1, ce BK193 2, ce BK193 3, ce BK193 4, ce BK193 5, ce BK192 0, ce BK192 1, ce BK192 2, ce BK192 3, ce BK192 4⟩ (fun hHeld => ?_)
  clear hK K
  refine nm ?_
  refine pu 18 ?_
  refine pu 19 ?_
  refine po 20 ?_
  refine po 21 ?_
  refine po 22 ?_
  refine po 23 ?_
  refine po 24 ?_
  refine po 25 ?_
  refine pu 26 ?_
  refine pu 27 ?_
  refine po 28 ?_
  refine po 29 ?_
  refine po 30 ?_
  refine po 31 ?_
  refine po 32 ?_
  refine po 33 ?_
  refine pu 34 ?_
  refine pu 35 ?_
  refine po 36 ?_
  refine po 37 ?_
  refine po 38 ?_
  refine po 39 ?_
  refine po 40 ?_
  refine pu 41 ?_
  refine pu 42 ?_
  refine done_ (done_of HT_.out (by kernel_rfl)) ?_
  try go_wp2
  go_ret
  exact ⟨by first | rfl | (simp [errW_none, errW_some] <;> rfl) | (simp [*, errW_none, errW_some] <;> rfl), pb HB⟩
 subst c7
 have H1 : (if (a1_2 == a0_0 && (a1_3 == a0_1)) = true then (if a1_4 = a0_3 then (some (decide ((l1_5.length : Int) > 0))) else (some false)) else (some false)) = some r := by rw [if_pos rfl] at H; exact H
 clear H
 have H := H1
 clear H1
 by_cases c8 : (a1_2 == a0_0 && (a1_3 == a0_1)) = true
 rotate_left
 ·rw [if_neg c8] at H
  have c8b0 : (a1_2 == a0_0 && (a1_3 == a0_1)) = false := by simpa using c8
  (try (have c8b1 : decide (a1_2 = a0_0 && (a1_3 == a0_1)) = false := by simpa using c8))
  (try (have c8b2 : (a1_2 == a0_0 && (a1_3 == a0_1)) = false := by simpa using c8))
  (try (have c8b3 : ¬ (a1_2 = a0_0 && (a1_3 == a0_1)) := by simpa using c8))
  clear c8
  obtain rfl := Option.some.inj H
  go_enter Try.func38, Try.ntmps38
  try go_wp2_with (first | ((with_reducible refine gate_dst (N := 2) rfl ?_); (try (refine gate_guard (by rfl) ?_; dsimp only)); refine be 2 #[.int .u64 a0_0, .int .u64 a0_1, .int .i64 a0_2, .int .i64 a0_3, .slice A0_4 l0_4.length c0_4] 28 ?_; intro gb192 hg w20 hbox hb; have BK192 := am (hbox); have GW192 := am ((pg hg HB : w.heap.size ≤ gb192)); have GE192 := am ((pg hg HB : w.heap.size ≤ gb192)); replace HB := am (below_step (pb HB) hb); clear hb hbox hg) | ((with_reducible refine gate_dst (N := 3) rfl ?_); (try (refine gate_guard (by rfl) ?_; dsimp only)); refine be 3 #[.string a1_0, .int .u64 a1_1, .int .u64 a1_2, .int .u64 a1_3, .int .i64 a1_4, .slice A1_5 l1_5.length c1_5] 42 ?_; intro gb193 hg w21 hbox hb; have BK193 := am (hbox); have GW193 := am ((pg hg HB : w.heap.size ≤ gb193)); have GE193 := am ((pg hg HB : w.heap.size ≤ gb193)); replace HB := am (below_step (pb HB) hb); obtain ⟨NB192_193, NB193_192, -, -⟩ := pm hg BK192; replace BK192 := am (blk_below (pk BK192.out) hb); clear hb hbox hg))
  replace BK192 := am (blk_drew BK192.out)
  replace BK193 := am (blk_drew BK193.out)
  replace HB := am (below_drew1 HB.out)
  refine start_ (n := 43) (S := fun w' => w'.cell? ⟨gb193, 0, none⟩ = some (.string a1_0) ∧ w'.cell? ⟨gb193, 1, none⟩ = some (.int .u64 a1_1) ∧ w'.cell? ⟨gb193, 2, none⟩ = some (.int .u64 a1_2) ∧ w'.cell? ⟨gb193, 3, none⟩ = some (.int .u64 a1_3) ∧ w'.cell? ⟨gb193, 4, none⟩ = some (.int .i64 a1_4) ∧ w'.cell? ⟨gb193, 5, none⟩ = some (.slice A1_5 l1_5.length c1_5) ∧ w'.cell? ⟨gb192, 0, none⟩ = some (.int .u64 a0_0) ∧ w'.cell? ⟨gb192, 1, none⟩ = some (.int .u64 a0_1) ∧ w'.cell? ⟨gb192, 2, none⟩ = some (.int .i64 a0_2) ∧ w'.cell? ⟨gb192, 3, none⟩ = some (.int .i64 a0_3) ∧ w'.cell? ⟨gb192, 4, none⟩ = some (.slice A0_4 l0_4.length c0_4)) (ds := []) #[false, false, false, false, false, false, false, false, false, false, false, false, false, false, false, false, false, false, false, false, false, false, false, false, false, false, false, false, false, false, false, false, false, false, false, false, false, false, false, false, false, false, false] (by kernel_rfl) rfl rfl ⟨ce BK193 0, ce BK193 1, ce BK193 2, ce BK193 3, ce BK193 4, ce BK193 5, ce BK192 0, ce BK192 1, ce BK192 2, ce BK192 3, ce BK192 4⟩ (fun hHeld => ?_); refine with_tabW strata_sound.tab1 strata_sound.bits1 (fun HT_ HW_ => ?_)
  generalize w21.drew = w22 at BK192 BK193 HB hHeld ⊢
  refine pu 0 ?_
  refine ta 1 hHeld ?_
  refine pu 2 ?_
  refine pu 3 ?_
  refine pu 4 ?_
  refine pu 5 ?_
  refine pu 7 ?_
  refine pu 9 ?_
  refine ta 6 hHeld ?_
  refine ta 8 hHeld ?_
  refine ta 10 hHeld ?_
  refine on1 11 (fun K hK => ?_)
  refine gs Try.func33 #[.agg #[.int .u64 a0_0, .int .u64 a0_1], .string a1_0] ?_
  with_reducible refine (sip_Sum.calls k a0_0 a0_1 a1_0 t194 _ A4.out).mono ?_
  rintro e w23 ⟨rfl, hb⟩
  refine ⟨_, rfl, ?_⟩
  replace BK192 := am (blk_below (pk BK192.out) hb)
  replace BK193 := am (blk_below (pk BK193.out) hb)
  replace HB := am (below_step (pb HB) hb)
  (try clear hb)
  (try clear hb2)
  (try clear hk)
  (try clear hi)
  refine hK.out _ _ ⟨ce BK193 0, ce BK193 1, ce BK193 2, ce BK193 3, ce BK193 4, ce BK193 5, ce BK192 0, ce BK192 1, ce BK192 2, ce BK192 3, ce BK192 4⟩ (fun hHeld => ?_)
  clear hK K
  refine nm ?_
  refine pu 12 ?_
  refine pu 13 ?_
  refine pu 14 ?_
  refine pu 15 ?_
  refine ta 16 hHeld ?_
  refine on1 17 (fun K hK => ?_)
  refine gs Try.func31 #[.agg #[.int .u64 a1_2, .int .u64 a1_3, .int .i64 a1_4, .slice A1_5 l1_5.length c1_5]] ?_
  with_reducible refine (bottom_Right.calls k a1_2 a1_3 a1_4 _ _ l1_5 true _ ?side1 ?side2 A6.out).mono ?_
  (case side1 => repeat (first | exact (Kd.C_below HR1_5.out HB.out) | (with_reducible refine Kd.C_alloc ?_ _) | (with_reducible refine Kd.C_drewN ?_ _) | (with_reducible refine Kd.C_drew ?_)))
  (case side2 => exact HC1_5.out)
  rintro e w24 ⟨rfl, hb⟩
  refine ⟨_, rfl, ?_⟩
  replace BK192 := am (blk_below (pk BK192.out) hb)
  replace BK193 := am (blk_below (pk BK193.out) hb)
  replace HB := am (below_step (pb HB) hb)
  (try clear hb)
  (try clear hb2)
  (try clear hk)
  (try clear hi)
  refine hK.out _ _ ⟨ce BK193 0, ce BK193 1, ce BK193 2, ce BK193 3, ce BK193 4, ce BK193 5, ce BK192 0, ce BK192 1, ce BK192 2, ce BK192 3, ce BK192 4⟩ (fun hHeld => ?_)
  clear hK K
  refine nm ?_
  refine pu 18 ?_
  refine pu 19 ?_
  refine pu 20 ?_
  refine pu 21 ?_
  refine pu 23 ?_
  refine ta 22 hHeld ?_
  refine ta 24 hHeld ?_
  refine pu 25 ?_
  refine pu 26 ?_
  refine pu 27 ?_
  refine po 28 ?_
  refine po 29 ?_
  refine po 30 ?_
  refine po 31 ?_
  refine po 32 ?_
  refine po 33 ?_
  refine pu 34 ?_
  refine pu 35 ?_
  refine po 36 ?_
  refine po 37 ?_
  refine po 38 ?_
  refine po 39 ?_
  refine po 40 ?_
  refine pu 41 ?_
  refine pu 42 ?_
  refine done_ (done_of HT_.out (by kernel_rfl)) ?_
  try go_wp2
  go_ret
  exact ⟨by first | rfl | (simp [errW_none, errW_some] <;> rfl) | (simp [*, errW_none, errW_some] <;> rfl), pb HB⟩
 rw [if_pos c8] at H
 have c8b0 : (a1_2 == a0_0 && (a1_3 == a0_1)) = true := c8
 (try (have c8b1 : decide (a1_2 = a0_0 && (a1_3 == a0_1)) = true := by simpa using c8))
 (try (have c8b2 : (a1_2 == a0_0 && (a1_3 == a0_1)) = true := by simpa using c8))
 clear c8
 by_cases c9 : a1_4 = a0_3
 ·rw [if_pos c9] at H
  have c9b0 : (a1_4 == a0_3) = true := beq_iff_eq.mpr c9
  have c9b1 : (a1_4 != a0_3) = false := bne_eq_false_iff_eq.mpr c9
  clear c9
  obtain rfl := Option.some.inj H
  go_enter Try.func38, Try.ntmps38
  try go_wp2_with (first | ((with_reducible refine gate_dst (N := 2) rfl ?_); (try (refine gate_guard (by rfl) ?_; dsimp only)); refine be 2 #[.int .u64 a0_0, .int .u64 a0_1, .int .i64 a0_2, .int .i64 a0_3, .slice A0_4 l0_4.length c0_4] 28 ?_; intro gb192 hg w10 hbox hb; have BK192 := am (hbox); have GW192 := am ((pg hg HB : w.heap.size ≤ gb192)); have GE192 := am ((pg hg HB : w.heap.size ≤ gb192)); replace HB := am (below_step (pb HB) hb); clear hb hbox hg) | ((with_reducible refine gate_dst (N := 3) rfl ?_); (try (refine gate_guard (by rfl) ?_; dsimp only)); refine be 3 #[.string a1_0, .int .u64 a1_1, .int .u64 a1_2, .int .u64 a1_3, .int .i64 a1_4, .slice A1_5 l1_5.length c1_5] 42 ?_; intro gb193 hg w11 hbox hb; have BK193 := am (hbox); have GW193 := am ((pg hg HB : w.heap.size ≤ gb193)); have GE193 := am ((pg hg HB : w.heap.size ≤ gb193)); replace HB := am (below_step (pb HB) hb); obtain ⟨NB192_193, NB193_192, -, -⟩ := pm hg BK192; replace BK192 := am (blk_below (pk BK192.out) hb); clear hb hbox hg))
  replace BK192 := am (blk_drew BK192.out)
  replace BK193 := am (blk_drew BK193.out)
  replace HB := am (below_drew1 HB.out)
  refine start_ (n := 43) (S := fun w' => w'.cell? ⟨gb193, 0, none⟩ = some (.string a1_0) ∧ w'.cell? ⟨gb193, 1, none⟩ = some (.int .u64 a1_1) ∧ w'.cell? ⟨gb193, 2, none⟩ = some (.int .u64 a1_2) ∧ w'.cell? ⟨gb193, 3, none⟩ = some (.int .u64 a1_3) ∧ w'.cell? ⟨gb193, 4, none⟩ = some (.int .i64 a1_4) ∧ w'.cell? ⟨gb193, 5, none⟩ = some (.slice A1_5 l1_5.length c1_5) ∧ w'.cell? ⟨gb192, 0, none⟩ = some (.int .u64 a0_0) ∧ w'.cell? ⟨gb192, 1, none⟩ = some (.int .u64 a0_1) ∧ w'.cell? ⟨gb192, 2, none⟩ = some (.int .i64 a0_2) ∧ w'.cell? ⟨gb192, 3, none⟩ = some (.int .i64 a0_3) ∧ w'.cell? ⟨gb192, 4, none⟩ = some (.slice A0_4 l0_4.length c0_4)) (ds := []) #[false, false, false, false, false, false, false, false, false, false, false, false, false, false, false, false, false, false, false, false, false, false, false, false, false, false, false, false, false, false, false, false, false, false, false, false, false, false, false, false, false, false, false] (by kernel_rfl) rfl rfl ⟨ce BK193 0, ce BK193 1, ce BK193 2, ce BK193 3, ce BK193 4, ce BK193 5, ce BK192 0, ce BK192 1, ce BK192 2, ce BK192 3, ce BK192 4⟩ (fun hHeld => ?_); refine with_tabW strata_sound.tab1 strata_sound.bits1 (fun HT_ HW_ => ?_)
  generalize w11.drew = w12 at BK192 BK193 HB hHeld ⊢
  refine pu 0 ?_
  refine ta 1 hHeld ?_
  refine pu 2 ?_
  refine pu 3 ?_
  refine pu 4 ?_
  refine pu 5 ?_
  refine pu 7 ?_
  refine pu 9 ?_
  refine ta 6 hHeld ?_
  refine ta 8 hHeld ?_
  refine ta 10 hHeld ?_
  refine on1 11 (fun K hK => ?_)
  refine gs Try.func33 #[.agg #[.int .u64 a0_0, .int .u64 a0_1], .string a1_0] ?_
  with_reducible refine (sip_Sum.calls k a0_0 a0_1 a1_0 t194 _ A4.out).mono ?_
  rintro e w13 ⟨rfl, hb⟩
  refine ⟨_, rfl, ?_⟩
  replace BK192 := am (blk_below (pk BK192.out) hb)
  replace BK193 := am (blk_below (pk BK193.out) hb)
  replace HB := am (below_step (pb HB) hb)
  (try clear hb)
  (try clear hb2)
  (try clear hk)
  (try clear hi)
  refine hK.out _ _ ⟨ce BK193 0, ce BK193 1, ce BK193 2, ce BK193 3, ce BK193 4, ce BK193 5, ce BK192 0, ce BK192 1, ce BK192 2, ce BK192 3, ce BK192 4⟩ (fun hHeld => ?_)
  clear hK K
  refine nm ?_
  refine pu 12 ?_
  refine pu 13 ?_
  refine pu 14 ?_
  refine pu 15 ?_
  refine ta 16 hHeld ?_
  refine on1 17 (fun K hK => ?_)
  refine gs Try.func31 #[.agg #[.int .u64 a1_2, .int .u64 a1_3, .int .i64 a1_4, .slice A1_5 l1_5.length c1_5]] ?_
  with_reducible refine (bottom_Right.calls k a1_2 a1_3 a1_4 _ _ l1_5 true _ ?side1 ?side2 A6.out).mono ?_
  (case side1 => repeat (first | exact (Kd.C_below HR1_5.out HB.out) | (with_reducible refine Kd.C_alloc ?_ _) | (with_reducible refine Kd.C_drewN ?_ _) | (with_reducible refine Kd.C_drew ?_)))
  (case side2 => exact HC1_5.out)
  rintro e w14 ⟨rfl, hb⟩
  refine ⟨_, rfl, ?_⟩
  replace BK192 := am (blk_below (pk BK192.out) hb)
  replace BK193 := am (blk_below (pk BK193.out) hb)
  replace HB := am (below_step (pb HB) hb)
  (try clear hb)
  (try clear hb2)
  (try clear hk)
  (try clear hi)
  refine hK.out _ _ ⟨ce BK193 0, ce BK193 1, ce BK193 2, ce BK193 3, ce BK193 4, ce BK193 5, ce BK192 0, ce BK192 1, ce BK192 2, ce BK192 3, ce BK192 4⟩ (fun hHeld => ?_)
  clear hK K
  refine nm ?_
  refine pu 18 ?_
  refine pu 19 ?_
  refine pu 20 ?_
  refine pu 21 ?_
  refine pu 23 ?_
  refine ta 22 hHeld ?_
  refine ta 24 hHeld ?_
  refine pu 25 ?_
  refine pu 26 ?_
  refine pu 27 ?_
  refine pu 28 ?_
  refine pu 29 ?_
  refine pu 31 ?_
  refine ta 30 hHeld ?_
  refine ta 32 hHeld ?_
  refine pu 33 ?_
  refine pu 34 ?_
  refine pu 35 ?_
  refine pu 36 ?_
  refine pu 37 ?_
  refine ta 38 hHeld ?_
  refine pu 39 ?_
  refine pu 40 ?_
  refine pu 41 ?_
  refine pu 42 ?_
  refine done_ (done_of HT_.out (by kernel_rfl)) ?_
  try go_wp2
  go_ret
  exact ⟨by first | rfl | (simp [errW_none, errW_some] <;> rfl) | (simp [*, errW_none, errW_some] <;> rfl), pb HB⟩
 rw [if_neg c9] at H
 have c9b0 : (a1_4 == a0_3) = false := beq_eq_false_iff_ne.mpr c9
 have c9b1 : (a1_4 != a0_3) = true := bne_iff_ne.mpr c9
 obtain rfl := Option.some.inj H
 go_enter Try.func38, Try.ntmps38
 try go_wp2_with (first | ((with_reducible refine gate_dst (N := 2) rfl ?_); (try (refine gate_guard (by rfl) ?_; dsimp only)); refine be 2 #[.int .u64 a0_0, .int .u64 a0_1, .int .i64 a0_2, .int .i64 a0_3, .slice A0_4 l0_4.length c0_4] 28 ?_; intro gb192 hg w15 hbox hb; have BK192 := am (hbox); have GW192 := am ((pg hg HB : w.heap.size ≤ gb192)); have GE192 := am ((pg hg HB : w.heap.size ≤ gb192)); replace HB := am (below_step (pb HB) hb); clear hb hbox hg) | ((with_reducible refine gate_dst (N := 3) rfl ?_); (try (refine gate_guard (by rfl) ?_; dsimp only)); refine be 3 #[.string a1_0, .int .u64 a1_1, .int .u64 a1_2, .int .u64 a1_3, .int .i64 a1_4, .slice A1_5 l1_5.length c1_5] 42 ?_; intro gb193 hg w16 hbox hb; have BK193 := am (hbox); have GW193 := am ((pg hg HB : w.heap.size ≤ gb193)); have GE193 := am ((pg hg HB : w.heap.size ≤ gb193)); replace HB := am (below_step (pb HB) hb); obtain ⟨NB192_193, NB193_192, -, -⟩ := pm hg BK192; replace BK192 := am (blk_below (pk BK192.out) hb); clear hb hbox hg))
 replace BK192 := am (blk_drew BK192.out)
 replace BK193 := am (blk_drew BK193.out)
 replace HB := am (below_drew1 HB.out)
 refine start_ (n := 43) (S := fun w' => w'.cell? ⟨gb193, 0, none⟩ = some (.string a1_0) ∧ w'.cell? ⟨gb193, 1, none⟩ = some (.int .u64 a1_1) ∧ w'.cell? ⟨gb193, 2, none⟩ = some (.int .u64 a1_2) ∧ w'.cell? ⟨gb193, 3, none⟩ = some (.int .u64 a1_3) ∧ w'.cell? ⟨gb193, 4, none⟩ = some (.int .i64 a1_4) ∧ w'.cell? ⟨gb193, 5, none⟩ = some (.slice A1_5 l1_5.length c1_5) ∧ w'.cell? ⟨gb192, 0, none⟩ = some (.int .u64 a0_0) ∧ w'.cell? ⟨gb192, 1, none⟩ = some (.int .u64 a0_1) ∧ w'.cell? ⟨gb192, 2, none⟩ = some (.int .i64 a0_2) ∧ w'.cell? ⟨gb192, 3, none⟩ = some (.int .i64 a0_3) ∧ w'.cell? ⟨gb192, 4, none⟩ = some (.slice A0_4 l0_4.length c0_4)) (ds := []) #[false, false, false, false, false, false, false, false, false, false, false, false, false, false, false, false, false, false, false, false, false, false, false, false, false, false, false, false, false, false, false, false, false, false, false, false, false, false, false, false, false, false, false] (by kernel_rfl) rfl rfl ⟨ce BK193 0, ce BK193 1, ce BK193 2, ce BK193 3, ce BK193 4, ce BK193 5, ce BK192 0, ce BK192 1, ce BK192 2, ce BK192 3, ce BK192 4⟩ (fun hHeld => ?_); refine with_tabW strata_sound.tab1 strata_sound.bits1 (fun HT_ HW_ => ?_)
 generalize w16.drew = w17 at BK192 BK193 HB hHeld ⊢
 refine pu 0 ?_
 refine ta 1 hHeld ?_
 refine pu 2 ?_
 refine pu 3 ?_
 refine pu 4 ?_
 refine pu 5 ?_
 refine pu 7 ?_
 refine pu 9 ?_
 refine ta 6 hHeld ?_
 refine ta 8 hHeld ?_
 refine ta 10 hHeld ?_
 refine on1 11 (fun K hK => ?_)
 refine gs Try.func33 #[.agg #[.int .u64 a0_0, .int .u64 a0_1], .string a1_0] ?_
 with_reducible refine (sip_Sum.calls k a0_0 a0_1 a1_0 t194 _ A4.out).mono ?_
 rintro e w18 ⟨rfl, hb⟩
 refine ⟨_, rfl, ?_⟩
 replace BK192 := am (blk_below (pk BK192.out) hb)
 replace BK193 := am (blk_below (pk BK193.out) hb)
 replace HB := am (below_step (pb HB) hb)
 (try clear hb)
 (try clear hb2)
 (try clear hk)
 (try clear hi)
 refine hK.out _ _ ⟨ce BK193 0, ce BK193 1, ce BK193 2, ce BK193 3, ce BK193 4, ce BK193 5, ce BK192 0, ce BK192 1, ce BK192 2, ce BK192 3, ce BK192 4⟩ (fun hHeld => ?_)
 clear hK K
 refine nm ?_
 refine pu 12 ?_
 refine pu 13 ?_
 refine pu 14 ?_
 refine pu 15 ?_
 refine ta 16 hHeld ?_
 refine on1 17 (fun K hK => ?_)
 refine gs Try.func31 #[.agg #[.int .u64 a1_2, .int .u64 a1_3, .int .i64 a1_4, .slice A1_5 l1_5.length c1_5]] ?_
 with_reducible refine (bottom_Right.calls k a1_2 a1_3 a1_4 _ _ l1_5 true _ ?side1 ?side2 A6.out).mono ?_
 (case side1 => repeat (first | exact (Kd.C_below HR1_5.out HB.out) | (with_reducible refine Kd.C_alloc ?_ _) | (with_reducible refine Kd.C_drewN ?_ _) | (with_reducible refine Kd.C_drew ?_)))
 (case side2 => exact HC1_5.out)
 rintro e w19 ⟨rfl, hb⟩
 refine ⟨_, rfl, ?_⟩
 replace BK192 := am (blk_below (pk BK192.out) hb)
 replace BK193 := am (blk_below (pk BK193.out) hb)
 replace HB := am (below_step (pb HB) hb)
 (try clear hb)
 (try clear hb2)
 (try clear hk)
 (try clear hi)
 refine hK.out _ _ ⟨ce BK193 0, ce BK193 1, ce BK193 2, ce BK193 3, ce BK193 4, ce BK193 5, ce BK192 0, ce BK192 1, ce BK192 2, ce BK192 3, ce BK192 4⟩ (fun hHeld => ?_)
 clear hK K
 refine nm ?_
 refine pu 18 ?_
 refine pu 19 ?_
 refine pu 20 ?_
 refine pu 21 ?_
 refine pu 23 ?_
 refine ta 22 hHeld ?_
 refine ta 24 hHeld ?_
 refine pu 25 ?_
 refine pu 26 ?_
 refine pu 27 ?_
 refine pu 28 ?_
 refine pu 29 ?_
 refine pu 31 ?_
 refine ta 30 hHeld ?_
 refine ta 32 hHeld ?_
 refine pu 33 ?_
 refine pu 34 ?_
 refine pu 35 ?_
 refine po 36 ?_
 refine po 37 ?_
 refine po 38 ?_
 refine po 39 ?_
 refine po 40 ?_
 refine pu 41 ?_
 refine pu 42 ?_
 refine done_ (done_of HT_.out (by kernel_rfl)) ?_
 try go_wp2
 go_ret
 exact ⟨by first | rfl | (simp [errW_none, errW_some] <;> rfl) | (simp [*, errW_none, errW_some] <;> rfl), pb HB⟩
end Go.Proofs.Ytpbiobbddgipkaa.H
