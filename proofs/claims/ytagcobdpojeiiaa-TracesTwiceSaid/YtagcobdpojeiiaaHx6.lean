import Derived.Test.YtagcobdpojeiiaaHx0
import Derived.Test.YtagcobdpojeiiaaHx5
namespace Go.Proofs.Ytagcobdpojeiiaa.H
open Go.RowKit Go.Proofs.YtagcobdpojeiiaaW.PrintWords Go.Proofs.YtagcobdpojeiiaaW.PrintLast Go.Proofs.YtagcobdpojeiiaaW.PrintMore Go.Proofs.YtagcobdpojeiiaaW.Sq
attribute [local go_sem] max2_int min2_int max_two min_two max_three min_three max_four min_four
set_option linter.unusedVariables false
set_option linter.unusedSimpArgs false

def t_byTrace.f (k : Nat) (a0_0 : ByteArray) (a0_1 : Int) (a1_0 : ByteArray) (a1_1 : Int) : Option (Int) := (cmp_Compare_uint64.f a0_1 a1_1).bind fun t164 => ((strings_Compare.f a0_0 a1_0).bind fun t165 => ((cmp_Or_int.f k (([t164, t165] : List Int))).bind fun t169 => (some t169)))
theorem t_byTrace.mono : ∀ a0 a1 a2 a3 k, LeO (t_byTrace.f k a0 a1 a2 a3) (t_byTrace.f (k + 1) a0 a1 a2 a3) := by
 intro a0 a1 a2 a3 k
 unfold t_byTrace.f
 repeat' first
   | (with_reducible exact cmp_Or_int.mono _ _)
   | (with_reducible exact LeO.refl _)
   | (with_reducible exact LeO.none _)
   | (with_reducible refine LeO.ite ?_ ?_)
   | (with_reducible refine LeO.bind ?_ (fun _ => ?_))
def t_byTrace.T1 : Bool × List (List Nat × List Nat) := (true, [([], []), ([0], [0]), ([], []), ([2], [2]), ([1, 3], [1, 3]), ([], []), ([5], [5]), ([], []), ([7], [7]), ([6, 8, 4], [6, 8]), ([4, 9], [4, 9]), ([10, 9], [10]), ([11, 11, 0, 1, 2, 3, 4, 5, 6, 7, 8, 9, 10, 11], [11])])
def t_byTrace.B1 : List Nat := [0, 1, 0, 4, 15, 0, 32, 0, 128, 511, 1023, 2047, 4095]
theorem t_byTrace.tab1 : rtab .any (opsOf Try.f38 1) = t_byTrace.T1 := by kernel_rfl
theorem t_byTrace.bits1 : waitsOk t_byTrace.T1.2 t_byTrace.B1 = true := by kernel_rfl
set_option maxHeartbeats 8000000 in
set_option maxRecDepth 100000 in
theorem t_byTrace.calls (k : Nat) (a0_0 : ByteArray) (a0_1 : Int) (a1_0 : ByteArray) (a1_1 : Int) (r : Int) (w : World) (h : t_byTrace.f k a0_0 a0_1 a1_0 a1_1 = some r) :
  Calls Try.prog 38 #[.agg #[.string a0_0, .int .u64 a0_1], .agg #[.string a1_0, .int .u64 a1_1]] w fun e w' => e = .returned (.int .i64 r) ∧ Below w.heap.size w w' := by
 have hu91 := Try.underlying91;have HB := am (Below.refl w.heap.size w);have H : ((cmp_Compare_uint64.f a0_1 a1_1).bind fun t164 => ((strings_Compare.f a0_0 a1_0).bind fun t165 => ((cmp_Or_int.f k (([t164, t165] : List Int))).bind fun t169 => (some t169)))) = some r := h;clear h;replace H := Option.bind_eq_some_iff.mp H;obtain ⟨t164, A30, H⟩ := H
 try dsimp only at H
 have A3 := am A30;clear A30;replace H := Option.bind_eq_some_iff.mp H;obtain ⟨t165, A40, H⟩ := H
 try dsimp only at H
 have A4 := am A40;clear A40;obtain ⟨y166, hy166⟩ : ∃ y_ : List Int, y_ = (([t164, t165] : List Int)) := ⟨_, rfl⟩
 replace H : ((cmp_Or_int.f k y166).bind fun t169 => (some t169)) = some r := by first | (rw [hy166]; with_reducible exact H) | (have H2_ := (Option.bind_some _ _).symm.trans H; rw [hy166]; with_reducible exact H2_) | (have H2_ := (Option.bind_some _ _).symm.trans H; with_reducible exact H2_) | with_reducible exact H | (rw [hy166]; exact H) | exact H
 have Ny166 := am hy166;clear hy166;replace H := Option.bind_eq_some_iff.mp H;obtain ⟨t169, A50, H⟩ := H
 try dsimp only at H
 have A5 := am A50;clear A50;obtain rfl := Option.some.inj H
 go_enter Try.func38, Try.ntmps38
 try go_wp2_with (first | ((with_reducible refine gate_dst (N := 2) rfl ?_); refine be 2 #[.string a0_0, .int .u64 a0_1] 91 ?_; intro gb162 hg w6 hbox hb; have BK162 := am (hbox); have GW162 := gq hg HB; have GE162 := gq hg HB; replace HB := lb HB hb; clear hb hbox hg) | ((with_reducible refine gate_dst (N := 3) rfl ?_); refine be 3 #[.string a1_0, .int .u64 a1_1] 91 ?_; intro gb163 hg w7 hbox hb; have BK163 := am (hbox); have GW163 := gq hg HB; have GE163 := gq hg HB; replace HB := lb HB hb; obtain ⟨NB162_163, NB163_162, -, -⟩ := pm hg BK162; replace BK162 := kb BK162 hb; clear hb hbox hg))
 replace BK162 := am (blk_drew BK162.out);replace BK163 := am (blk_drew BK163.out);replace HB := am (below_drew1 HB.out)
 refine start_ (n := 13) (S := fun w' => w'.cell? ⟨gb162, 0, none⟩ = some (.string a0_0) ∧ w'.cell? ⟨gb162, 1, none⟩ = some (.int .u64 a0_1) ∧ w'.cell? ⟨gb163, 0, none⟩ = some (.string a1_0) ∧ w'.cell? ⟨gb163, 1, none⟩ = some (.int .u64 a1_1)) (ds := []) #[false, false, false, false, false, false, false, false, false, false, false, false, false] (by kernel_rfl) rfl rfl (K2 BK162 (Q2 BK163)) (fun hHeld => ?_); refine with_tabW t_byTrace.tab1 t_byTrace.bits1 (fun HT_ HW_ => ?_)
 generalize w7.drew = w8 at BK162 BK163 HB hHeld ⊢
 refine pu 0 ?_;refine pu 2 ?_;refine pu 5 ?_;refine pu 7 ?_;refine ta 1 hHeld ?_;refine ta 3 hHeld ?_;refine ta 6 hHeld ?_;refine ta 8 hHeld ?_
 refine on1 4 (fun K hK => ?_)
 refine gs Try.func63 #[.int .u64 a0_1, .int .u64 a1_1] ?_
 with_reducible refine (cmp_Compare_uint64.calls a0_1 a1_1 t164 _ A3.out).mono ?_
 rintro e w' ⟨rfl, ⟨nd, rfl⟩⟩
 refine ⟨_, rfl, ?_⟩
 refine hK.out _ _ (K2 BK162 (Q2 BK163)) (fun hHeld => ?_)
 clear hK K;refine nm ?_
 refine on1 9 (fun K hK => ?_)
 refine gs Try.func64 #[.string a0_0, .string a1_0] ?_
 with_reducible refine (strings_Compare.calls a0_0 a1_0 t165 _ A4.out).mono ?_
 rintro e w' ⟨rfl, ⟨nd, rfl⟩⟩
 refine ⟨_, rfl, ?_⟩
 refine hK.out _ _ (K2 BK162 (Q2 BK163)) (fun hHeld => ?_)
 clear hK K;refine nm ?_
 refine on1 10 (fun K hK => ?_)
 refine Kd.R_lit_step (Kd.int .i64) _ 3 ?hg (N := 15) ?hd (xs := ([t164, t165] : List Int)) (inner := [.int .i64 t164, .int .i64 t165]) (ok := fun _ => True) (okp := fun _ => True) ?hr ?hp (fun _ hk => hk) trivial (Below.refl _ _) (Nat.le_refl _) (by simp) ?_; (case hd => rfl); (case hg => rfl); (case hr => first | (go_simp; done) | (go_simp; rfl)); (case hp => exact (Reps.one (show Kd.M (Kd.int .i64) _ _ _ t164 [.int .i64 t164] from rfl) (Reps.one (show Kd.M (Kd.int .i64) _ _ _ t165 [.int .i64 t165] from rfl) (Reps.none _ _))))
 intro v167 w9 ho10 hb hg_ hnew_
 clear hg_ hnew_
 (first | rw [← Ny166.out] at ho10 | (simp only [Int.reduceToNat] at ho10; rw [← Ny166.out] at ho10))
 have HO168 := am (Kd.R_lower ho10 (below_size (pb HB)));replace BK162 := kb BK162 hb;replace BK163 := kb BK163 hb;replace HB := lb HB hb;clear hb ho10;obtain ⟨Ao11, co11, eo11⟩ := Kd.R_slice HO168.out
 (first | subst eo11 | (injection eo11 with f1_ f2_ f3_; have f4_ := f1_.symm; have f5_ := f3_.symm; clear f1_ f2_ f3_; subst f4_; subst f5_))
 refine hK.out _ _ (K2 BK162 (Q2 BK163)) (fun hHeld => ?_)
 clear hK K;refine nm ?_
 refine on1 11 (fun K hK => ?_)
 refine gs Try.func62 #[.slice Ao11 y166.length co11] ?_
 with_reducible refine (cmp_Or_int.calls k _ _ y166 t169 _ ?side1 ?side2 A5.out).mono ?_
 (case side1 => exact pc (Kd.R_reads' HO168.out).2.2)
 (case side2 => exact (Kd.R_reads' HO168.out).2.1)
 rintro e w' ⟨rfl, ⟨nd, rfl⟩⟩
 refine ⟨_, rfl, ?_⟩
 refine hK.out _ _ (K2 BK162 (Q2 BK163)) (fun hHeld => ?_)
 clear hK K;refine nm ?_;refine pu 12 ?_
 refine done_ (done_of HT_.out (by kernel_rfl)) ?_
 try go_wp2
 go_ret
 exact ey (h := pb HB)

def cmp_isNaN_int.f (a0 : Int) : Option (Bool) := some (a0 != a0)
set_option maxHeartbeats 8000000 in
set_option maxRecDepth 100000 in
theorem cmp_isNaN_int.calls (a0 : Int) (r : Bool) (w : World) (h : cmp_isNaN_int.f a0 = some r) :
  Calls Try.prog 74 #[.int .i64 a0] w fun e w' => e = .returned (.bool r) ∧ Drawn0 w w' := by
 have H : (some (a0 != a0)) = some r := h;clear h;obtain rfl := Option.some.inj H
 go_enter Try.func74, Try.ntmps74
 go_wp2
 go_ret
 exact ⟨by first | rfl | (simp; done) | (simp [*]; done), by repeat (first | exact Drawn0.refl _ | apply Drawn0.step)⟩

def cmp_Compare_int.f (a0 : Int) (a1 : Int) : Option (Int) := (cmp_isNaN_int.f a0).bind fun t170 => ((cmp_isNaN_int.f a1).bind fun t171 => (if t170 = true then (if t171 = true then (some 0) else (some (-1))) else (if t171 = true then (some 1) else (if a0 < a1 then (some (-1)) else (if a0 > a1 then (some 1) else (some 0))))))
set_option maxHeartbeats 8000000 in
set_option maxRecDepth 100000 in
theorem cmp_Compare_int.calls (a0 : Int) (a1 : Int) (r : Int) (w : World) (h : cmp_Compare_int.f a0 a1 = some r) :
  Calls Try.prog 50 #[.int .i64 a0, .int .i64 a1] w fun e w' => e = .returned (.int .i64 r) ∧ Drawn0 w w' := by
 have H : ((cmp_isNaN_int.f a0).bind fun t170 => ((cmp_isNaN_int.f a1).bind fun t171 => (if t170 = true then (if t171 = true then (some 0) else (some (-1))) else (if t171 = true then (some 1) else (if a0 < a1 then (some (-1)) else (if a0 > a1 then (some 1) else (some 0))))))) = some r := h;clear h;replace H := Option.bind_eq_some_iff.mp H;obtain ⟨t170, A30, H⟩ := H
 try dsimp only at H
 have A3 := am A30;clear A30;replace H := Option.bind_eq_some_iff.mp H;obtain ⟨t171, A40, H⟩ := H
 try dsimp only at H
 have A4 := am A40;clear A40
 by_cases c5 : t170 = true
 ·subst c5
  have H1 : (if t171 = true then (some 0) else (some (-1))) = some r := by rw [if_pos rfl] at H; exact H
  clear H;have H := H1;clear H1
  by_cases c6 : t171 = true
  ·subst c6
   have H1 : (some 0) = some r := by rw [if_pos rfl] at H; exact H
   clear H;have H := H1;clear H1;obtain rfl := Option.some.inj H
   go_enter Try.func50, Try.ntmps50
   go_wp2_with (first | ((with_reducible refine gate_callee (f := 74) rfl ?_); refine gl (some 8) Try.func74 #[.int .i64 a0] ?_; (with_reducible refine (cmp_isNaN_int.calls a0 true _ A3.out).mono ?_); rintro e w' ⟨rfl, ⟨nd, rfl⟩⟩; refine ⟨_, rfl, ?_⟩) | ((with_reducible refine gate_callee (f := 74) rfl ?_); refine gl (some 10) Try.func74 #[.int .i64 a1] ?_; (with_reducible refine (cmp_isNaN_int.calls a1 true _ A4.out).mono ?_); rintro e w' ⟨rfl, ⟨nd, rfl⟩⟩; refine ⟨_, rfl, ?_⟩))
   go_ret
   exact ⟨by first | rfl | (simp; done) | (simp [*]; done), by repeat (first | exact Drawn0.refl _ | apply Drawn0.step)⟩
  replace c6 := Bool.eq_false_iff.mpr c6;subst c6
  have H1 : (some (-1)) = some r := by rw [if_neg (show ¬ (false = true) by decide)] at H; exact H
  clear H;have H := H1;clear H1;obtain rfl := Option.some.inj H
  go_enter Try.func50, Try.ntmps50
  go_wp2_with (first | ((with_reducible refine gate_callee (f := 74) rfl ?_); refine gl (some 8) Try.func74 #[.int .i64 a0] ?_; (with_reducible refine (cmp_isNaN_int.calls a0 true _ A3.out).mono ?_); rintro e w' ⟨rfl, ⟨nd, rfl⟩⟩; refine ⟨_, rfl, ?_⟩) | ((with_reducible refine gate_callee (f := 74) rfl ?_); refine gl (some 10) Try.func74 #[.int .i64 a1] ?_; (with_reducible refine (cmp_isNaN_int.calls a1 false _ A4.out).mono ?_); rintro e w' ⟨rfl, ⟨nd, rfl⟩⟩; refine ⟨_, rfl, ?_⟩))
  go_ret
  exact ⟨by first | rfl | (simp; done) | (simp [*]; done), by repeat (first | exact Drawn0.refl _ | apply Drawn0.step)⟩
 replace c5 := Bool.eq_false_iff.mpr c5;subst c5
 have H1 : (if t171 = true then (some 1) else (if a0 < a1 then (some (-1)) else (if a0 > a1 then (some 1) else (some 0)))) = some r := by rw [if_neg (show ¬ (false = true) by decide)] at H; exact H
 clear H;have H := H1;clear H1
 by_cases c7 : t171 = true
 ·subst c7
  have H1 : (some 1) = some r := by rw [if_pos rfl] at H; exact H
  clear H;have H := H1;clear H1;obtain rfl := Option.some.inj H
  go_enter Try.func50, Try.ntmps50
  go_wp2_with (first | ((with_reducible refine gate_callee (f := 74) rfl ?_); refine gl (some 8) Try.func74 #[.int .i64 a0] ?_; (with_reducible refine (cmp_isNaN_int.calls a0 false _ A3.out).mono ?_); rintro e w' ⟨rfl, ⟨nd, rfl⟩⟩; refine ⟨_, rfl, ?_⟩) | ((with_reducible refine gate_callee (f := 74) rfl ?_); refine gl (some 10) Try.func74 #[.int .i64 a1] ?_; (with_reducible refine (cmp_isNaN_int.calls a1 true _ A4.out).mono ?_); rintro e w' ⟨rfl, ⟨nd, rfl⟩⟩; refine ⟨_, rfl, ?_⟩))
  go_ret
  exact ⟨by first | rfl | (simp; done) | (simp [*]; done), by repeat (first | exact Drawn0.refl _ | apply Drawn0.step)⟩
 replace c7 := Bool.eq_false_iff.mpr c7;subst c7
 have H1 : (if a0 < a1 then (some (-1)) else (if a0 > a1 then (some 1) else (some 0))) = some r := by rw [if_neg (show ¬ (false = true) by decide)] at H; exact H
 clear H;have H := H1;clear H1
 by_cases c8 : a0 < a1
 ·rw [if_pos c8] at H;have c8b0 : decide (a0 < a1) = true := decide_eq_true c8;clear c8;obtain rfl := Option.some.inj H
  go_enter Try.func50, Try.ntmps50
  go_wp2_with (first | ((with_reducible refine gate_callee (f := 74) rfl ?_); refine gl (some 8) Try.func74 #[.int .i64 a0] ?_; (with_reducible refine (cmp_isNaN_int.calls a0 false _ A3.out).mono ?_); rintro e w' ⟨rfl, ⟨nd, rfl⟩⟩; refine ⟨_, rfl, ?_⟩) | ((with_reducible refine gate_callee (f := 74) rfl ?_); refine gl (some 10) Try.func74 #[.int .i64 a1] ?_; (with_reducible refine (cmp_isNaN_int.calls a1 false _ A4.out).mono ?_); rintro e w' ⟨rfl, ⟨nd, rfl⟩⟩; refine ⟨_, rfl, ?_⟩))
  go_ret
  exact ⟨by first | rfl | (simp; done) | (simp [*]; done), by repeat (first | exact Drawn0.refl _ | apply Drawn0.step)⟩
 rw [if_neg c8] at H;have c8b0 : decide (a0 < a1) = false := decide_eq_false c8;clear c8
 by_cases c9 : a0 > a1
 ·rw [if_pos c9] at H;have c9b0 : decide (a1 < a0) = true := decide_eq_true c9;clear c9;obtain rfl := Option.some.inj H
  go_enter Try.func50, Try.ntmps50
  go_wp2_with (first | ((with_reducible refine gate_callee (f := 74) rfl ?_); refine gl (some 8) Try.func74 #[.int .i64 a0] ?_; (with_reducible refine (cmp_isNaN_int.calls a0 false _ A3.out).mono ?_); rintro e w' ⟨rfl, ⟨nd, rfl⟩⟩; refine ⟨_, rfl, ?_⟩) | ((with_reducible refine gate_callee (f := 74) rfl ?_); refine gl (some 10) Try.func74 #[.int .i64 a1] ?_; (with_reducible refine (cmp_isNaN_int.calls a1 false _ A4.out).mono ?_); rintro e w' ⟨rfl, ⟨nd, rfl⟩⟩; refine ⟨_, rfl, ?_⟩))
  go_ret
  exact ⟨by first | rfl | (simp; done) | (simp [*]; done), by repeat (first | exact Drawn0.refl _ | apply Drawn0.step)⟩
 rw [if_neg c9] at H;have c9b0 : decide (a1 < a0) = false := decide_eq_false c9;clear c9;obtain rfl := Option.some.inj H
 go_enter Try.func50, Try.ntmps50
 go_wp2_with (first | ((with_reducible refine gate_callee (f := 74) rfl ?_); refine gl (some 8) Try.func74 #[.int .i64 a0] ?_; (with_reducible refine (cmp_isNaN_int.calls a0 false _ A3.out).mono ?_); rintro e w' ⟨rfl, ⟨nd, rfl⟩⟩; refine ⟨_, rfl, ?_⟩) | ((with_reducible refine gate_callee (f := 74) rfl ?_); refine gl (some 10) Try.func74 #[.int .i64 a1] ?_; (with_reducible refine (cmp_isNaN_int.calls a1 false _ A4.out).mono ?_); rintro e w' ⟨rfl, ⟨nd, rfl⟩⟩; refine ⟨_, rfl, ?_⟩))
 go_ret
 exact ⟨by first | rfl | (simp; done) | (simp [*]; done), by repeat (first | exact Drawn0.refl _ | apply Drawn0.step)⟩
def t_byBucket.f (a0_0 : Int) (l0_1 : List (S91)) (a1_0 : Int) (l1_1 : List (S91)) : Option (Int) := (cmp_Compare_int.f a0_0 a1_0).bind fun t174 => (some t174)
set_option maxHeartbeats 8000000 in
set_option maxRecDepth 100000 in
theorem t_byBucket.calls (a0_0 : Int) (A0_1 : Option Addr) (c0_1 : Nat) (l0_1 : List (S91)) (a1_0 : Int) (A1_1 : Option Addr) (c1_1 : Nat) (l1_1 : List (S91)) (r : Int) (w : World) (hr0_1 : Kd.C k91 w A0_1 l0_1.length l0_1) (hc0_1 : l0_1.length ≤ c0_1) (hr1_1 : Kd.C k91 w A1_1 l1_1.length l1_1) (hc1_1 : l1_1.length ≤ c1_1) (h : t_byBucket.f a0_0 l0_1 a1_0 l1_1 = some r) :
  Calls Try.prog 42 #[.agg #[.int .i64 a0_0, .slice A0_1 l0_1.length c0_1], .agg #[.int .i64 a1_0, .slice A1_1 l1_1.length c1_1]] w fun e w' => e = .returned (.int .i64 r) ∧ Below w.heap.size w w' := by
 have hu84 := Try.underlying84;have HR0_1 := am hr0_1;have HC0_1 := am hc0_1;clear hr0_1 hc0_1;have HR1_1 := am hr1_1;have HC1_1 := am hc1_1;clear hr1_1 hc1_1;have HB := am (Below.refl w.heap.size w);have H : ((cmp_Compare_int.f a0_0 a1_0).bind fun t174 => (some t174)) = some r := h;clear h;replace H := Option.bind_eq_some_iff.mp H;obtain ⟨t174, A30, H⟩ := H
 try dsimp only at H
 have A3 := am A30;clear A30;obtain rfl := Option.some.inj H
 go_enter Try.func42, Try.ntmps42
 go_wp2_with (first | ((with_reducible refine gate_dst (N := 2) rfl ?_); refine be 2 #[.int .i64 a0_0, .slice A0_1 l0_1.length c0_1] 84 ?_; intro gb172 hg w4 hbox hb; have BK172 := am (hbox); have GW172 := gq hg HB; have GE172 := gq hg HB; replace HB := lb HB hb; clear hb hbox hg) | ((with_reducible refine gate_dst (N := 3) rfl ?_); refine be 3 #[.int .i64 a1_0, .slice A1_1 l1_1.length c1_1] 84 ?_; intro gb173 hg w5 hbox hb; have BK173 := am (hbox); have GW173 := gq hg HB; have GE173 := gq hg HB; replace HB := lb HB hb; obtain ⟨NB172_173, NB173_172, hnb6, hnc6⟩ := pm hg BK172; replace BK172 := kb BK172 hb; clear hb hbox hg; obtain ⟨hcz7_0, hcz7_1, hfz7_0, hfz7_1⟩ := g2 BK172; obtain ⟨hcz8_0, hcz8_1, hfz8_0, hfz8_1⟩ := g2 BK173) | ((with_reducible refine gate_callee (f := 50) rfl ?_); refine gl (some 9) Try.func50 #[.int .i64 a0_0, .int .i64 a1_0] ?_; (with_reducible refine (cmp_Compare_int.calls a0_0 a1_0 t174 _ A3.out).mono ?_); rintro e w' ⟨rfl, ⟨nd, rfl⟩⟩; refine ⟨_, rfl, ?_⟩))
 go_ret
 exact ey (h := pb HB)

def t_byLabel.f (k : Nat) (a0_0 : ByteArray) (a0_1 : Int) (l0_2 : List (S84)) (a1_0 : ByteArray) (a1_1 : Int) (l1_2 : List (S84)) : Option (Int) := (cmp_Compare_uint64.f a0_1 a1_1).bind fun t177 => ((strings_Compare.f a0_0 a1_0).bind fun t178 => ((cmp_Or_int.f k (([t177, t178] : List Int))).bind fun t182 => (some t182)))
theorem t_byLabel.mono : ∀ a0 a1 a2 a3 a4 a5 k, LeO (t_byLabel.f k a0 a1 a2 a3 a4 a5) (t_byLabel.f (k + 1) a0 a1 a2 a3 a4 a5) := by
 intro a0 a1 a2 a3 a4 a5 k
 unfold t_byLabel.f
 repeat' first
   | (with_reducible exact cmp_Or_int.mono _ _)
   | (with_reducible exact LeO.refl _)
   | (with_reducible exact LeO.none _)
   | (with_reducible refine LeO.ite ?_ ?_)
   | (with_reducible refine LeO.bind ?_ (fun _ => ?_))
def t_byLabel.T1 : Bool × List (List Nat × List Nat) := (true, [([], []), ([0], [0]), ([], []), ([2], [2]), ([1, 3], [1, 3]), ([], []), ([5], [5]), ([], []), ([7], [7]), ([6, 8, 4], [6, 8]), ([4, 9], [4, 9]), ([10, 9], [10]), ([11, 11, 0, 1, 2, 3, 4, 5, 6, 7, 8, 9, 10, 11], [11])])
def t_byLabel.B1 : List Nat := [0, 1, 0, 4, 15, 0, 32, 0, 128, 511, 1023, 2047, 4095]
theorem t_byLabel.tab1 : rtab .any (opsOf Try.f45 1) = t_byLabel.T1 := by kernel_rfl
theorem t_byLabel.bits1 : waitsOk t_byLabel.T1.2 t_byLabel.B1 = true := by kernel_rfl
set_option maxHeartbeats 8000000 in
set_option maxRecDepth 100000 in
theorem t_byLabel.calls (k : Nat) (a0_0 : ByteArray) (a0_1 : Int) (A0_2 : Option Addr) (c0_2 : Nat) (l0_2 : List (S84)) (a1_0 : ByteArray) (a1_1 : Int) (A1_2 : Option Addr) (c1_2 : Nat) (l1_2 : List (S84)) (r : Int) (w : World) (hr0_2 : Kd.C k84 w A0_2 l0_2.length l0_2) (hc0_2 : l0_2.length ≤ c0_2) (hr1_2 : Kd.C k84 w A1_2 l1_2.length l1_2) (hc1_2 : l1_2.length ≤ c1_2) (h : t_byLabel.f k a0_0 a0_1 l0_2 a1_0 a1_1 l1_2 = some r) :
  Calls Try.prog 45 #[.agg #[.string a0_0, .int .u64 a0_1, .slice A0_2 l0_2.length c0_2], .agg #[.string a1_0, .int .u64 a1_1, .slice A1_2 l1_2.length c1_2]] w fun e w' => e = .returned (.int .i64 r) ∧ Below w.heap.size w w' := by
 have hu67 := Try.underlying67;have HR0_2 := am hr0_2;have HC0_2 := am hc0_2;clear hr0_2 hc0_2;have HR1_2 := am hr1_2;have HC1_2 := am hc1_2;clear hr1_2 hc1_2;have HB := am (Below.refl w.heap.size w);have H : ((cmp_Compare_uint64.f a0_1 a1_1).bind fun t177 => ((strings_Compare.f a0_0 a1_0).bind fun t178 => ((cmp_Or_int.f k (([t177, t178] : List Int))).bind fun t182 => (some t182)))) = some r := h;clear h;replace H := Option.bind_eq_some_iff.mp H;obtain ⟨t177, A30, H⟩ := H
 try dsimp only at H
 have A3 := am A30;clear A30;replace H := Option.bind_eq_some_iff.mp H;obtain ⟨t178, A40, H⟩ := H
 try dsimp only at H
 have A4 := am A40;clear A40;obtain ⟨y179, hy179⟩ : ∃ y_ : List Int, y_ = (([t177, t178] : List Int)) := ⟨_, rfl⟩
 replace H : ((cmp_Or_int.f k y179).bind fun t182 => (some t182)) = some r := by first | (rw [hy179]; with_reducible exact H) | (have H2_ := (Option.bind_some _ _).symm.trans H; rw [hy179]; with_reducible exact H2_) | (have H2_ := (Option.bind_some _ _).symm.trans H; with_reducible exact H2_) | with_reducible exact H | (rw [hy179]; exact H) | exact H
 have Ny179 := am hy179;clear hy179;replace H := Option.bind_eq_some_iff.mp H;obtain ⟨t182, A50, H⟩ := H
 try dsimp only at H
 have A5 := am A50;clear A50;obtain rfl := Option.some.inj H
 go_enter Try.func45, Try.ntmps45
 try go_wp2_with (first | ((with_reducible refine gate_dst (N := 2) rfl ?_); refine be 2 #[.string a0_0, .int .u64 a0_1, .slice A0_2 l0_2.length c0_2] 67 ?_; intro gb175 hg w6 hbox hb; have BK175 := am (hbox); have GW175 := gq hg HB; have GE175 := gq hg HB; replace HB := lb HB hb; clear hb hbox hg) | ((with_reducible refine gate_dst (N := 3) rfl ?_); refine be 3 #[.string a1_0, .int .u64 a1_1, .slice A1_2 l1_2.length c1_2] 67 ?_; intro gb176 hg w7 hbox hb; have BK176 := am (hbox); have GW176 := gq hg HB; have GE176 := gq hg HB; replace HB := lb HB hb; obtain ⟨NB175_176, NB176_175, -, -⟩ := pm hg BK175; replace BK175 := kb BK175 hb; clear hb hbox hg))
 replace BK175 := am (blk_drew BK175.out);replace BK176 := am (blk_drew BK176.out);replace HB := am (below_drew1 HB.out)
 refine start_ (n := 13) (S := fun w' => w'.cell? ⟨gb175, 0, none⟩ = some (.string a0_0) ∧ w'.cell? ⟨gb175, 1, none⟩ = some (.int .u64 a0_1) ∧ w'.cell? ⟨gb175, 2, none⟩ = some (.slice A0_2 l0_2.length c0_2) ∧ w'.cell? ⟨gb176, 0, none⟩ = some (.string a1_0) ∧ w'.cell? ⟨gb176, 1, none⟩ = some (.int .u64 a1_1) ∧ w'.cell? ⟨gb176, 2, none⟩ = some (.slice A1_2 l1_2.length c1_2)) (ds := []) #[false, false, false, false, false, false, false, false, false, false, false, false, false] (by kernel_rfl) rfl rfl (K3 BK175 (Q3 BK176)) (fun hHeld => ?_); refine with_tabW t_byLabel.tab1 t_byLabel.bits1 (fun HT_ HW_ => ?_)
 generalize w7.drew = w8 at BK175 BK176 HB hHeld ⊢
 refine pu 0 ?_;refine pu 2 ?_;refine pu 5 ?_;refine pu 7 ?_;refine ta 1 hHeld ?_;refine ta 3 hHeld ?_;refine ta 6 hHeld ?_;refine ta 8 hHeld ?_
 refine on1 4 (fun K hK => ?_)
 refine gs Try.func63 #[.int .u64 a0_1, .int .u64 a1_1] ?_
 with_reducible refine (cmp_Compare_uint64.calls a0_1 a1_1 t177 _ A3.out).mono ?_
 rintro e w' ⟨rfl, ⟨nd, rfl⟩⟩
 refine ⟨_, rfl, ?_⟩
 refine hK.out _ _ (K3 BK175 (Q3 BK176)) (fun hHeld => ?_)
 clear hK K;refine nm ?_
 refine on1 9 (fun K hK => ?_)
 refine gs Try.func64 #[.string a0_0, .string a1_0] ?_
 with_reducible refine (strings_Compare.calls a0_0 a1_0 t178 _ A4.out).mono ?_
 rintro e w' ⟨rfl, ⟨nd, rfl⟩⟩
 refine ⟨_, rfl, ?_⟩
 refine hK.out _ _ (K3 BK175 (Q3 BK176)) (fun hHeld => ?_)
 clear hK K;refine nm ?_
 refine on1 10 (fun K hK => ?_)
 refine Kd.R_lit_step (Kd.int .i64) _ 3 ?hg (N := 15) ?hd (xs := ([t177, t178] : List Int)) (inner := [.int .i64 t177, .int .i64 t178]) (ok := fun _ => True) (okp := fun _ => True) ?hr ?hp (fun _ hk => hk) trivial (Below.refl _ _) (Nat.le_refl _) (by simp) ?_; (case hd => rfl); (case hg => rfl); (case hr => first | (go_simp; done) | (go_simp; rfl)); (case hp => exact (Reps.one (show Kd.M (Kd.int .i64) _ _ _ t177 [.int .i64 t177] from rfl) (Reps.one (show Kd.M (Kd.int .i64) _ _ _ t178 [.int .i64 t178] from rfl) (Reps.none _ _))))
 intro v180 w9 ho10 hb hg_ hnew_
 clear hg_ hnew_
 (first | rw [← Ny179.out] at ho10 | (simp only [Int.reduceToNat] at ho10; rw [← Ny179.out] at ho10))
 have HO181 := am (Kd.R_lower ho10 (below_size (pb HB)));replace BK175 := kb BK175 hb;replace BK176 := kb BK176 hb;replace HB := lb HB hb;clear hb ho10;obtain ⟨Ao11, co11, eo11⟩ := Kd.R_slice HO181.out
 (first | subst eo11 | (injection eo11 with f1_ f2_ f3_; have f4_ := f1_.symm; have f5_ := f3_.symm; clear f1_ f2_ f3_; subst f4_; subst f5_))
 refine hK.out _ _ (K3 BK175 (Q3 BK176)) (fun hHeld => ?_)
 clear hK K;refine nm ?_
 refine on1 11 (fun K hK => ?_)
 refine gs Try.func62 #[.slice Ao11 y179.length co11] ?_
 with_reducible refine (cmp_Or_int.calls k _ _ y179 t182 _ ?side1 ?side2 A5.out).mono ?_
 (case side1 => exact pc (Kd.R_reads' HO181.out).2.2)
 (case side2 => exact (Kd.R_reads' HO181.out).2.1)
 rintro e w' ⟨rfl, ⟨nd, rfl⟩⟩
 refine ⟨_, rfl, ?_⟩
 refine hK.out _ _ (K3 BK175 (Q3 BK176)) (fun hHeld => ?_)
 clear hK K;refine nm ?_;refine pu 12 ?_
 refine done_ (done_of HT_.out (by kernel_rfl)) ?_
 try go_wp2
 go_ret
 exact ey (h := pb HB)

def t_byEpoch.f (a0_0 : Int) (l0_1 : List (S67)) (a1_0 : Int) (l1_1 : List (S67)) : Option (Int) := (cmp_Compare_int.f a0_0 a1_0).bind fun t185 => (some t185)
set_option maxHeartbeats 8000000 in
set_option maxRecDepth 100000 in
theorem t_byEpoch.calls (a0_0 : Int) (A0_1 : Option Addr) (c0_1 : Nat) (l0_1 : List (S67)) (a1_0 : Int) (A1_1 : Option Addr) (c1_1 : Nat) (l1_1 : List (S67)) (r : Int) (w : World) (hr0_1 : Kd.C k67 w A0_1 l0_1.length l0_1) (hc0_1 : l0_1.length ≤ c0_1) (hr1_1 : Kd.C k67 w A1_1 l1_1.length l1_1) (hc1_1 : l1_1.length ≤ c1_1) (h : t_byEpoch.f a0_0 l0_1 a1_0 l1_1 = some r) :
  Calls Try.prog 30 #[.agg #[.int .i64 a0_0, .slice A0_1 l0_1.length c0_1], .agg #[.int .i64 a1_0, .slice A1_1 l1_1.length c1_1]] w fun e w' => e = .returned (.int .i64 r) ∧ Below w.heap.size w w' := by
 have hu63 := Try.underlying63;have HR0_1 := am hr0_1;have HC0_1 := am hc0_1;clear hr0_1 hc0_1;have HR1_1 := am hr1_1;have HC1_1 := am hc1_1;clear hr1_1 hc1_1;have HB := am (Below.refl w.heap.size w);have H : ((cmp_Compare_int.f a0_0 a1_0).bind fun t185 => (some t185)) = some r := h;clear h;replace H := Option.bind_eq_some_iff.mp H;obtain ⟨t185, A30, H⟩ := H
 try dsimp only at H
 have A3 := am A30;clear A30;obtain rfl := Option.some.inj H
 go_enter Try.func30, Try.ntmps30
 go_wp2_with (first | ((with_reducible refine gate_dst (N := 2) rfl ?_); refine be 2 #[.int .i64 a0_0, .slice A0_1 l0_1.length c0_1] 63 ?_; intro gb183 hg w4 hbox hb; have BK183 := am (hbox); have GW183 := gq hg HB; have GE183 := gq hg HB; replace HB := lb HB hb; clear hb hbox hg) | ((with_reducible refine gate_dst (N := 3) rfl ?_); refine be 3 #[.int .i64 a1_0, .slice A1_1 l1_1.length c1_1] 63 ?_; intro gb184 hg w5 hbox hb; have BK184 := am (hbox); have GW184 := gq hg HB; have GE184 := gq hg HB; replace HB := lb HB hb; obtain ⟨NB183_184, NB184_183, hnb6, hnc6⟩ := pm hg BK183; replace BK183 := kb BK183 hb; clear hb hbox hg; obtain ⟨hcz7_0, hcz7_1, hfz7_0, hfz7_1⟩ := g2 BK183; obtain ⟨hcz8_0, hcz8_1, hfz8_0, hfz8_1⟩ := g2 BK184) | ((with_reducible refine gate_callee (f := 50) rfl ?_); refine gl (some 9) Try.func50 #[.int .i64 a0_0, .int .i64 a1_0] ?_; (with_reducible refine (cmp_Compare_int.calls a0_0 a1_0 t185 _ A3.out).mono ?_); rintro e w' ⟨rfl, ⟨nd, rfl⟩⟩; refine ⟨_, rfl, ?_⟩))
 go_ret
 exact ey (h := pb HB)

mutual
def l22_buckets.l0 : Nat → List (S76) → List (S84) → Int → Int → Option ((List (S76)))
 | 0, _, _, _, _ => none
 | k + 1, x3, x10, x11, x12 => if x12 < x11 then (if 0 ≤ x12 then (if x12 < (x10.length : Int) then (l22_buckets.l1 k x3 ([] : List (S78)) x10 x11 x12 ((rd_T84 x10 x12).f1) (((rd_T84 x10 x12).f1).length : Int) 0 ((rd_T84 x10 x12).f0)) else (none)) else (none)) else (some x3)
def l22_buckets.l1 : Nat → List (S76) → List (S78) → List (S84) → Int → Int → List (S91) → Int → Int → Int → Option ((List (S76)))
 | 0, _, _, _, _, _, _, _, _, _ => none
 | k + 1, x3, x7, x10, x11, x12, x20, x21, x22, x189000 => if x22 < x21 then (if 0 ≤ x22 then (if x22 < (x20.length : Int) then (if x7.length < 5864062014805 then (l22_buckets.l1 k x3 (x7 ++ [(⟨(rd_T91 x20 x22).f0, (rd_T91 x20 x22).f1⟩ : S78)]) x10 x11 x12 x20 x21 (wrap64 (x22 + 1)) x189000) else (none)) else (none)) else (none)) else (if x3.length < 4398046511104 then (l22_buckets.l0 k (x3 ++ [(⟨x189000, x7⟩ : S76)]) x10 x11 (wrap64 (x12 + 1))) else (none))
end
def l22_buckets.f (k : Nat) (l0 : List (S84)) : Option ((List (S76))) := l22_buckets.l0 k ([] : List (S76)) l0 (l0.length : Int) 0
theorem l22_buckets.mono_l : ∀ k, (∀ y0 y1 y2 y3, LeO (l22_buckets.l0 k y0 y1 y2 y3) (l22_buckets.l0 (k + 1) y0 y1 y2 y3)) ∧ (∀ y0 y1 y2 y3 y4 y5 y6 y7 y8, LeO (l22_buckets.l1 k y0 y1 y2 y3 y4 y5 y6 y7 y8) (l22_buckets.l1 (k + 1) y0 y1 y2 y3 y4 y5 y6 y7 y8))
 | 0 => ⟨fun _ _ _ _ r h => by simp [l22_buckets.l0] at h, fun _ _ _ _ _ _ _ _ _ r h => by simp [l22_buckets.l1] at h⟩
 | k + 1 => by
  obtain ⟨ih0, ih1⟩ := l22_buckets.mono_l k
  refine ⟨?_, ?_⟩
  ·intro y0 y1 y2 y3
   unfold l22_buckets.l0
   repeat' first
   | (with_reducible exact ih0 _ _ _ _)
   | (with_reducible exact ih1 _ _ _ _ _ _ _ _ _)
   | (with_reducible exact LeO.refl _)
   | (with_reducible exact LeO.none _)
   | (with_reducible refine LeO.ite ?_ ?_)
   | (with_reducible refine LeO.bind ?_ (fun _ => ?_))
  ·intro y0 y1 y2 y3 y4 y5 y6 y7 y8
   unfold l22_buckets.l1
   repeat' first
   | (with_reducible exact ih0 _ _ _ _)
   | (with_reducible exact ih1 _ _ _ _ _ _ _ _ _)
   | (with_reducible exact LeO.refl _)
   | (with_reducible exact LeO.none _)
   | (with_reducible refine LeO.ite ?_ ?_)
   | (with_reducible refine LeO.bind ?_ (fun _ => ?_))
theorem l22_buckets.mono : ∀ a0 k, LeO (l22_buckets.f k a0) (l22_buckets.f (k + 1) a0) := by
 intro a0 k
 obtain ⟨ih0, ih1⟩ := l22_buckets.mono_l k
 unfold l22_buckets.f
 repeat' first
   | (with_reducible exact ih0 _ _ _ _)
   | (with_reducible exact ih1 _ _ _ _ _ _ _ _ _)
   | (with_reducible exact LeO.refl _)
   | (with_reducible exact LeO.none _)
   | (with_reducible refine LeO.ite ?_ ?_)
   | (with_reducible refine LeO.bind ?_ (fun _ => ?_))
set_option maxHeartbeats 8000000 in
set_option maxRecDepth 100000 in
theorem l22_buckets.calls (k : Nat) (A0 : Option Addr) (c0 : Nat) (l0 : List (S84)) (r : List (S76)) (w : World) (hr0 : Kd.C k84 w A0 l0.length l0) (hc0 : l0.length ≤ c0) (h : l22_buckets.f k l0 = some r) :
  Calls Try.prog 24 #[.slice A0 l0.length c0] w fun e w' => ∃ v0_ : Value, e = .returned (v0_) ∧ Kd.S k76 76 w' w.heap.size (fun _ => True) v0_ r ∧ Below w.heap.size w w' := by
 have hu84 := Try.underlying84;have hu76 := Try.underlying76;have hu91 := Try.underlying91;have HR0 := am hr0;have HC0 := am hc0;clear hr0 hc0;have HB := am (Below.refl w.heap.size w);have H : (l22_buckets.l0 k ([] : List (S76)) l0 (l0.length : Int) 0) = some r := h;clear h;have H' := am H;clear H
 go_enter Try.func24, Try.ntmps24
 go_wp2
 go_loopg [3, 12] k (fun kq v3 v12 w' => ∃ (x3_1 : List (S76)) (x12_1 : Int), v12 = .int .i64 x12_1 ∧ Aside0 (l22_buckets.l0 kq x3_1 l0 (l0.length : Int) x12_1 = some r) ∧ Aside0 (kq ≤ k) ∧ Aside0 (Kd.S k76 76 w' w.heap.size (fun _ => True) v3 x3_1) ∧ Aside0 (Below w.heap.size w w'))
 case atStart => exact ⟨(([] : List (S76))), (0), eR, H', ⟨Nat.le_refl _⟩, ⟨by first | exact Kd.S_nil _ _ _ _ _ | exact Kd.N_nil _ _ _ _ _ | exact Kd.V_nil _ _ _ _ _ | exact Kd.Q_nil _ _ _ _ _ | exact Kd.R_nil _ _ _ _ _⟩, ⟨pb HB⟩⟩
 case round =>
  clear H';obtain ⟨x3_1, x12_1, rfl, HA, HK1, HO_3, HB⟩ := hrel
  cases gk with
  | zero => exact absurd HA.out (by simp [l22_buckets.l0])
  | succ k1 =>
   have H := HA.out;clear HA
   simp only [l22_buckets.l0] at H
   by_cases c2 : x12_1 < (l0.length : Int)
   ·rw [if_pos c2] at H;have c2b0 : decide (x12_1 < (l0.length : Int)) = true := decide_eq_true c2;clear c2
    by_cases c3 : 0 ≤ x12_1
    ·rw [if_pos c3] at H;have c3b0 : decide (0 ≤ x12_1) = true := decide_eq_true c3;clear c3
     by_cases c4 : x12_1 < (l0.length : Int)
     ·rw [if_pos c4] at H;have c4b0 : decide (x12_1 < (l0.length : Int)) = true := decide_eq_true c4;clear c4;have H' := am H;clear H;have p186 : 0 ≤ (x12_1 : Int) := od;have q186 : x12_1 < (l0.length : Int) := od;obtain ⟨ad186, A186_1, c186_1, e186, hx186_0, hx186_1, hl186_1, hi186_1⟩ := at_T84 HR0.out x12_1 p186 q186;cases e186;replace hx186_0 := hQ HB hx186_0;replace hx186_1 := hQ HB hx186_1;have HR186_1 := am hi186_1;have HC186_1 := am hl186_1;clear hi186_1 hl186_1;replace p186 := eq_true p186;replace q186 := eq_true q186
      go_wp2_with (first | ((with_reducible refine gate_dst (N := 5) rfl ?_); refine be 5 #[.int .i64 0, .slice none 0 0] 84 ?_; intro gb187 hg w5 hbox hb; replace HO_3 := am (Kd.S_below (by (with_reducible repeat (first | apply Kd.S_alloc | apply Kd.S_drewN | apply Kd.S_drew)); exact HO_3.out) hb); have BK187 := am (hbox); have GW187 := gq hg HB; have GE187 := gq hg HB; replace HB := lb HB hb; clear hb hbox hg; obtain ⟨hcz6_0, hcz6_1, hfz6_0, hfz6_1⟩ := g2 BK187) | ((with_reducible refine gate_dst (N := 6) rfl ?_); refine be 6 #[.int .i64 0, .slice none 0 0] 76 ?_; intro gb188 hg w7 hbox hb; replace HO_3 := am (Kd.S_below (Kd.S_elderB (by (with_reducible repeat (first | apply Kd.S_alloc | apply Kd.S_drewN | apply Kd.S_drew)); exact ((sf (f2 rfl) HO_3 BK187).out)) gb188 (Nat.le_of_eq hg.symm)) hb); have BK188 := am (hbox); have GW188 := gq hg HB; have GE188 := gq hg HB; replace HB := lb HB hb; have NB187_188 := am ((by rw [hg]; exact Nat.ne_of_lt (blk_lt (g := gb187) (o := .cells #[.int .i64 ((rd_T84 l0 x12_1).f0), .slice A186_1 ((rd_T84 l0 x12_1).f1).length c186_1] 84 (0, 0)) ((s2 rfl BK187).out)) : gb187 ≠ gb188)); have NB188_187 := am ((by rw [hg]; exact Nat.ne_of_gt (blk_lt (g := gb187) (o := .cells #[.int .i64 ((rd_T84 l0 x12_1).f0), .slice A186_1 ((rd_T84 l0 x12_1).f1).length c186_1] 84 (0, 0)) ((s2 rfl BK187).out)) : gb188 ≠ gb187)); replace BK187 := am (blk_below (g := gb187) (o := .cells #[.int .i64 ((rd_T84 l0 x12_1).f0), .slice A186_1 ((rd_T84 l0 x12_1).f1).length c186_1] 84 (0, 0)) ((s2 rfl BK187).out) hb); clear hb hbox hg; have hnb8 := NB188_187.out; have hnc8 := NB187_188.out; obtain ⟨hcz9_0, hcz9_1, hfz9_0, hfz9_1⟩ := g2 BK188; obtain ⟨hcz10_0, hcz10_1, hfz10_0, hfz10_1⟩ := g2 BK187))
      go_loopg [7, 22] k1 (fun kq v7 v22 w' => ∃ (x7_2 : List (S78)) (x22_2 : Int), v22 = .int .i64 x22_2 ∧ Aside0 (l22_buckets.l1 kq x3_1 x7_2 l0 (l0.length : Int) x12_1 ((rd_T84 l0 x12_1).f1) (((rd_T84 l0 x12_1).f1).length : Int) x22_2 ((rd_T84 l0 x12_1).f0) = some r) ∧ Aside0 (kq ≤ k1) ∧ Aside0 (Kd.S k76 76 w' w.heap.size (fun k_ => some k_ ≠ (v7 : Value).ownBlock ∧ k_ ≠ gb188) u3 x3_1) ∧ Aside0 (Kd.R k78 78 w' w.heap.size (fun _ => True) v7 x7_2) ∧ Aside0 (w'.heap[gb187]? = some (.cells #[.int .i64 ((rd_T84 l0 x12_1).f0), (.slice A186_1 ((rd_T84 l0 x12_1).f1).length c186_1)] 84 (0, 0))) ∧ Aside0 (w'.heap[gb188]? = some (.cells #[.int .i64 ((rd_T84 l0 x12_1).f0), (.slice none 0 0)] 76 (0, 0))) ∧ Aside0 (Below w.heap.size w w'))
      case atStart => exact ⟨(([] : List (S78))), (0), eR, H', ⟨Nat.le_refl _⟩, ⟨by (with_reducible repeat (first | apply Kd.S_alloc | apply Kd.S_drewN | apply Kd.S_drew)); exact Kd.S_mono (Kd.S_far (p := ⟨gb188, 1, none⟩) (Kd.S_far (p := ⟨gb188, 0, none⟩) (Kd.S_mono HO_3.out (fun k_ hk => (⟨hk, hk.2⟩ : _ ∧ k_ ≠ gb188))) (fun _ hk => hk.2) (.int .i64 ((rd_T84 l0 x12_1).f0))) (fun _ hk => hk.2) (.slice none 0 0)) (fun _ hk => ⟨(by simp [Value.ownBlock]), hk.1.2⟩)⟩, ⟨by first | exact Kd.R_nil _ _ _ _ _ | exact Kd.N_nil _ _ _ _ _ | exact Kd.V_nil _ _ _ _ _ | exact Kd.Q_nil _ _ _ _ _ | exact Kd.S_nil _ _ _ _ _⟩, ⟨(bf (f2 rfl) BK187 NB187_188.out).out⟩, ⟨(s2 rfl BK188).out⟩, ⟨pb HB⟩⟩
      case round =>
       clear H';(try clear c1);(try clear p1);(try clear q1);(try clear hx1);(try clear c2);(try clear c2b0);(try clear p2);(try clear c3);(try clear c3b0);(try clear c4);(try clear c4b0);(try clear c8);(try clear hcz10_0 hcz10_1);(try clear hcz6_0 hcz6_1);(try clear hcz9_0 hcz9_1);(try clear hfz10_0 hfz10_1);(try clear hfz6_0 hfz6_1);(try clear hfz9_0 hfz9_1);(try clear hx186_0);(try clear hx186_1);(try clear p186);(try clear q186);obtain ⟨x7_2, x22_2, rfl, HA, HK2, HO_3, HO_7, BK187, BK188, HB⟩ := hrel
       cases gk with
       | zero => exact absurd HA.out (by simp [l22_buckets.l1])
       | succ k2 =>
        have H := HA.out;clear HA
        simp only [l22_buckets.l1] at H
        by_cases c11 : x22_2 < (((rd_T84 l0 x12_1).f1).length : Int)
        ·rw [if_pos c11] at H;have c11b0 : decide (x22_2 < (((rd_T84 l0 x12_1).f1).length : Int)) = true := decide_eq_true c11;clear c11
         by_cases c12 : 0 ≤ x22_2
         ·rw [if_pos c12] at H;have c12b0 : decide (0 ≤ x22_2) = true := decide_eq_true c12;clear c12
          by_cases c13 : x22_2 < (((rd_T84 l0 x12_1).f1).length : Int)
          ·rw [if_pos c13] at H;have c13b0 : decide (x22_2 < (((rd_T84 l0 x12_1).f1).length : Int)) = true := decide_eq_true c13;clear c13
           by_cases c14 : x7_2.length < 5864062014805
           ·rw [if_pos c14] at H;have LMc14 := am c14;clear c14;obtain ⟨y191, hy191⟩ : ∃ y_ : List (S78), y_ = (x7_2 ++ [(⟨(rd_T91 ((rd_T84 l0 x12_1).f1) x22_2).f0, (rd_T91 ((rd_T84 l0 x12_1).f1) x22_2).f1⟩ : S78)]) := ⟨_, rfl⟩
            replace H : (l22_buckets.l1 k2 x3_1 y191 l0 (l0.length : Int) x12_1 ((rd_T84 l0 x12_1).f1) (((rd_T84 l0 x12_1).f1).length : Int) (wrap64 (x22_2 + 1)) ((rd_T84 l0 x12_1).f0)) = some r := by first | (rw [hy191]; with_reducible exact H) | (have H2_ := (Option.bind_some _ _).symm.trans H; rw [hy191]; with_reducible exact H2_) | (have H2_ := (Option.bind_some _ _).symm.trans H; with_reducible exact H2_) | with_reducible exact H | (rw [hy191]; exact H) | exact H
            have Ny191 := am hy191;clear hy191;have H' := am H;clear H;have p189 : 0 ≤ (x22_2 : Int) := od;have q189 : x22_2 < (((rd_T84 l0 x12_1).f1).length : Int) := od;obtain ⟨ad189, e189, hx189_0, hx189_1⟩ := at_T91 HR186_1.out x22_2 p189 q189;cases e189;replace hx189_0 := hQ HB hx189_0;replace hx189_1 := hQ HB hx189_1;replace p189 := eq_true p189;replace q189 := eq_true q189
            go_wp2_with (first | ((with_reducible refine gate_dst (N := 9) rfl ?_); refine be 9 #[.string (⟨#[]⟩ : ByteArray), .int .u64 0] 91 ?_; intro gb190 hg w15 hbox hb; replace HO_3 := am (Kd.S_below (by (with_reducible repeat (first | apply Kd.S_alloc | apply Kd.S_drewN | apply Kd.S_drew)); exact HO_3.out) hb); replace HO_7 := rb HO_7 hb; have BK190 := am (hbox); have GW190 := gq hg HB; have GE190 := gq hg HB; replace HB := lb HB hb; obtain ⟨NB187_190, NB190_187, hnc16, hnb16⟩ := pm hg BK187; replace BK187 := kb BK187 hb; obtain ⟨NB188_190, NB190_188, hnc17, hnb17⟩ := pm hg BK188; replace BK188 := kb BK188 hb; clear hb hbox hg; obtain ⟨hcz18_0, hcz18_1, hfz18_0, hfz18_1⟩ := g2 BK190) | ((with_reducible refine gate_builtin (b := .append) (xs := #[.tmp 26, .tmp 28]) rfl ?_); at_builtin; refine Kd.R_append k78 (w0 := w) w.heap.size rfl (.tmp 26) (.tmp 28) 74 78 (.agg #[(.string ⟨#[]⟩), (.int .u64 0)]) 24 rfl Try.underlying74 info78 rfl (by decide) (by omega) u7 x7_2 (⟨(rd_T91 ((rd_T84 l0 x12_1).f1) x22_2).f0, (rd_T91 ((rd_T84 l0 x12_1).f1) x22_2).f1⟩ : S78) [.string ((rd_T91 ((rd_T84 l0 x12_1).f1) x22_2).f0), .int .u64 ((rd_T91 ((rd_T84 l0 x12_1).f1) x22_2).f1)] (fun _ => True) (fun _ => False) rfl (by first | (go_simp; done) | (go_simp; rfl)) ?aP (fun _ hk => hk.elim) ?aF ?aO ?aB ?aS ?aL ?_; (case aP => exact k78_mkM _ _ _ (⟨(rd_T91 ((rd_T84 l0 x12_1).f1) x22_2).f0, (rd_T91 ((rd_T84 l0 x12_1).f1) x22_2).f1⟩ : S78)); (case aB => exact (pb HB)); (case aF => exact (fun _ _ => trivial)); (case aO => exact (pr ((rf (f2 rfl) HO_7 BK190).out))); (case aS => exact (below_size (pb HB))); (case aL => have := LMc14.out; omega); intro v192 w19 ho hb hg hat; rw [← Ny191.out] at ho; replace HO_3 := am (Kd.S_after (ok := (fun k_ => k_ ≠ gb188)) (by (with_reducible repeat (first | apply Kd.S_alloc | apply Kd.S_drewN | apply Kd.S_drew)); exact Kd.S_mono (sf (f2 rfl) HO_3 BK190).out (fun _ hk => ⟨hk.2, hk.1⟩)) hg hat); replace BK187 := am (blk_grown (g := gb187) (o := .cells #[.int .i64 ((rd_T84 l0 x12_1).f0), .slice (some ad189) ((rd_T84 l0 x12_1).f1).length c186_1] 84 (0, 0)) ((bf (f2 rfl) BK187 NB187_190.out).out) hg (Kd.R_ne HO_7.out BK187.out (by decide))); replace BK188 := am (blk_grown (g := gb188) (o := .cells #[.int .i64 ((rd_T84 l0 x12_1).f0), .slice none 0 0] 76 (0, 0)) ((bf (f2 rfl) BK188 NB188_190.out).out) hg (Kd.R_ne HO_7.out BK188.out (by decide))); replace BK190 := am (blk_grown (g := gb190) (o := .cells #[.string ((rd_T91 ((rd_T84 l0 x12_1).f1) x22_2).f0), .int .u64 ((rd_T91 ((rd_T84 l0 x12_1).f1) x22_2).f1)] 91 (0, 0)) ((s2 rfl BK190).out) hg (Kd.R_ne HO_7.out BK190.out (by decide))); replace HB := am (hb); have HO193 := am (ho); clear HO_7; clear ho hb hg hat))
            go_roundg k2
            case measure => have := HK1.out; have := HK2.out; omega
            case rel => exact ⟨(y191), (wrap64 (x22_2 + 1)), eR, H', ⟨by have := HK1.out; have := HK2.out; omega⟩, ⟨by (with_reducible repeat (first | apply Kd.S_alloc | apply Kd.S_drewN | apply Kd.S_drew)); exact Kd.S_mono HO_3.out (fun _ hk => ⟨hk.2, hk.1⟩)⟩, ⟨pr HO193.out⟩, ⟨pk BK187.out⟩, ⟨pk BK188.out⟩, ⟨pb HB⟩⟩
           ·rw [if_neg c14] at H;exact absurd H (by simp)
          ·rw [if_neg c13] at H;exact absurd H (by simp)
         ·rw [if_neg c12] at H;exact absurd H (by simp)
        ·rw [if_neg c11] at H;have c11b0 : decide (x22_2 < (((rd_T84 l0 x12_1).f1).length : Int)) = false := decide_eq_false c11;clear c11
         by_cases c20 : x3_1.length < 4398046511104
         ·rw [if_pos c20] at H;have LMc20 := am c20;clear c20;obtain ⟨y194, hy194⟩ : ∃ y_ : List (S76), y_ = (x3_1 ++ [(⟨((rd_T84 l0 x12_1).f0), x7_2⟩ : S76)]) := ⟨_, rfl⟩
          replace H : (l22_buckets.l0 k2 y194 l0 (l0.length : Int) (wrap64 (x12_1 + 1))) = some r := by first | (rw [hy194]; with_reducible exact H) | (have H2_ := (Option.bind_some _ _).symm.trans H; rw [hy194]; with_reducible exact H2_) | (have H2_ := (Option.bind_some _ _).symm.trans H; with_reducible exact H2_) | with_reducible exact H | (rw [hy194]; exact H) | exact H
          have Ny194 := am hy194;clear hy194;have H' := am H;clear H;obtain ⟨Ao21, co21, eo21⟩ := Kd.R_slice HO_7.out;subst eo21;have hnb22 := NB188_187.out;have hnc22 := NB187_188.out;obtain ⟨hcz23_0, hcz23_1, hfz23_0, hfz23_1⟩ := g2 BK188
          go_wp2_with (first | ((with_reducible refine gate_store (t := 74) (p := 32) rfl ?_); refine store_event (t := 74) (p := 32) (v := ?vo_w24) (w1 := (wr.setCell ⟨gb188, 1, none⟩ (.slice Ao21 x7_2.length co21))) ?hg ?ho ?hn ?hr ?_; (case ho => rfl); (case hg => rfl); (case hn => rfl); (case hr => first | (go_simp; done) | (go_simp; rfl)); intro w24 hw; replace HO_3 : Aside0 (Kd.S k76 76 w24 w.heap.size (fun k_ => some k_ ≠ (.slice Ao21 x7_2.length co21 : Value).ownBlock ∧ k_ ≠ gb188) u3 x3_1) := ⟨(by rw [hw]; exact (by (with_reducible repeat (first | apply Kd.S_alloc | apply Kd.S_drewN | apply Kd.S_drew)); exact Kd.S_mono (Kd.S_far (p := ⟨gb188, 1, none⟩) (Kd.S_mono HO_3.out (fun k_ hk => (⟨hk, hk.2⟩ : _ ∧ k_ ≠ gb188))) (fun _ hk => hk.2) (.slice Ao21 x7_2.length co21)) (fun _ hk => ⟨hk.1.1, hk.1.2⟩)))⟩; replace HO_7 := rf (f1 hw) HO_7 BK188; replace BK187 := bf (f1 hw) BK187 NB187_188.out; replace BK188 : Aside0 (w24.heap[gb188]? = some (.cells #[.int .i64 ((rd_T84 l0 x12_1).f0), .slice Ao21 x7_2.length co21] 76 (0, 0))) := ⟨(by rw [hw]; exact (by refine pk ?_; refine blk_put (cs := #[.int .i64 ((rd_T84 l0 x12_1).f0), .slice none 0 0]) ?_ 1 _ rfl; refine pk ?_; exact BK188.out))⟩; replace HB := lf (f1 hw) HB; clear hw; obtain ⟨hcz25_0, hcz25_1, hfz25_0, hfz25_1⟩ := g2 BK188) | ((with_reducible refine gate_builtin (b := .append) (xs := #[.tmp 33, .tmp 35]) rfl ?_); at_builtin; refine Kd.S_append k76 (w0 := w) w.heap.size rfl (.tmp 33) (.tmp 35) 68 76 (.agg #[(.int .i64 0), (.slice none 0 0)]) 32 rfl Try.underlying68 info76 rfl (by decide) (by omega) u3 x3_1 (⟨((rd_T84 l0 x12_1).f0), x7_2⟩ : S76) [.int .i64 ((rd_T84 l0 x12_1).f0), .slice Ao21 x7_2.length co21] (fun k_ => k_ ≠ gb188) (fun k_ => some k_ = (.slice Ao21 x7_2.length co21 : Value).ownBlock) rfl rfl ?aP (fun k_ hk_ => ((Kd.R_mono (ok' := fun k_ => ((fun k_ => k_ ≠ gb188)) k_ ∧ some k_ ≠ (u3 : Value).ownBlock) (Kd.R_types (Kd.R_apart' (HO_7.out) (Kd.S_typed HO_3.out) (by decide)) BK188.out (by decide)) (fun k_ hk => ⟨hk.2, hk.1.2⟩))).1 k_ hk_.symm) ?aF ?aO ?aB ?aS ?aL ?_; (case aP => exact k76_mkM _ _ _ (⟨((rd_T84 l0 x12_1).f0), x7_2⟩ : S76) (Kd.R_mono (Kd.R_tight rfl (Kd.R_mono (ok' := fun k_ => ((fun k_ => k_ ≠ gb188)) k_ ∧ some k_ ≠ (u3 : Value).ownBlock) (Kd.R_types (Kd.R_apart' (HO_7.out) (Kd.S_typed HO_3.out) (by decide)) BK188.out (by decide)) (fun k_ hk => ⟨hk.2, hk.1.2⟩))) (fun _ h_ => h_))); (case aB => exact (pb HB)); (case aF => exact (fun k_ hk => Kd.freshB (g := gb188) (o := .cells #[.int .i64 ((rd_T84 l0 x12_1).f0), .slice Ao21 x7_2.length co21] 76 (0, 0)) (pk BK188.out) k_ hk)); (case aO => exact (by (with_reducible repeat (first | apply Kd.S_alloc | apply Kd.S_drewN | apply Kd.S_drew)); exact Kd.S_mono HO_3.out (fun k_ hk => ⟨hk.2, fun e_ => hk.1 e_⟩))); (case aS => exact (below_size (pb HB))); (case aL => have := LMc20.out; omega); intro v195 w26 ho hb hg hat; rw [← Ny194.out] at ho; replace BK187 := am (blk_grown (g := gb187) (o := .cells #[.int .i64 ((rd_T84 l0 x12_1).f0), .slice A186_1 ((rd_T84 l0 x12_1).f1).length c186_1] 84 (0, 0)) (pk BK187.out) hg (Kd.S_ne HO_3.out BK187.out (by decide))); replace BK188 := am (blk_grown (g := gb188) (o := .cells #[.int .i64 ((rd_T84 l0 x12_1).f0), .slice Ao21 x7_2.length co21] 76 (0, 0)) (pk BK188.out) hg (Kd.S_away HO_3.out (fun _ hk => hk.2))); replace HB := am (hb); have HO196 := am (ho); clear HO_3 HO_7; clear ho hb hg hat))
          go_roundg k2
          case measure => have := HK1.out; have := HK2.out; omega
          case rel => exact ⟨(y194), (wrap64 (x12_1 + 1)), eR, H', ⟨by have := HK1.out; have := HK2.out; omega⟩, ⟨by (with_reducible repeat (first | apply Kd.S_alloc | apply Kd.S_drewN | apply Kd.S_drew)); exact Kd.S_mono HO196.out (fun _ hk => trivial)⟩, ⟨pb HB⟩⟩
         ·rw [if_neg c20] at H;exact absurd H (by simp)
     ·rw [if_neg c4] at H;exact absurd H (by simp)
    ·rw [if_neg c3] at H;exact absurd H (by simp)
   ·rw [if_neg c2] at H;have c2b0 : decide (x12_1 < (l0.length : Int)) = false := decide_eq_false c2;clear c2;obtain rfl := Option.some.inj H
    go_wp2
    go_ret
    exact ⟨_, ey (h := ⟨by (with_reducible repeat (first | apply Kd.S_alloc | apply Kd.S_drewN | apply Kd.S_drew)); exact HO_3.out, pb HB⟩)⟩
end Go.Proofs.Ytagcobdpojeiiaa.H
