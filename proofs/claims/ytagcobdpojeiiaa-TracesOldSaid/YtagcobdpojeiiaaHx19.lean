import Derived.Test.YtagcobdpojeiiaaHx0
namespace Go.Proofs.Ytagcobdpojeiiaa.H
open Go.RowKit Go.Proofs.YtagcobdpojeiiaaW.PrintWords Go.Proofs.YtagcobdpojeiiaaW.PrintLast Go.Proofs.YtagcobdpojeiiaaW.PrintMore Go.Proofs.YtagcobdpojeiiaaW.Sq
attribute [local go_sem] max2_int min2_int max_two min_two max_three min_three max_four min_four
set_option linter.unusedVariables false
set_option linter.unusedSimpArgs false

def r22_May.f (a0_0 : Int) (a0_1 : ByteArray) (a0_2 : Int) (a0_3 : ByteArray) : Option (Bool) := if a0_0 ≥ 0 then (if a0_0 ≤ 2147483647 then (if a0_2 ≥ 0 then (if a0_2 ≤ 63 then (if (a0_1.size : Int) ≤ 64 then (some (decide ((a0_3.size : Int) ≤ 64))) else (some false)) else (some false)) else (some false)) else (some false)) else (some false)
set_option maxHeartbeats 8000000 in
set_option maxRecDepth 100000 in
theorem r22_May.calls (a0_0 : Int) (a0_1 : ByteArray) (a0_2 : Int) (a0_3 : ByteArray) (r : Bool) (w : World) (h : r22_May.f a0_0 a0_1 a0_2 a0_3 = some r) :
  Calls Try.prog 21 #[.agg #[.int .i64 a0_0, .string a0_1, .int .i64 a0_2, .string a0_3]] w fun e w' => e = .returned (.bool r) ∧ Below w.heap.size w w' := by
 have hu46 := Try.underlying46;have HB := am (Below.refl w.heap.size w);have H : (if a0_0 ≥ 0 then (if a0_0 ≤ 2147483647 then (if a0_2 ≥ 0 then (if a0_2 ≤ 63 then (if (a0_1.size : Int) ≤ 64 then (some (decide ((a0_3.size : Int) ≤ 64))) else (some false)) else (some false)) else (some false)) else (some false)) else (some false)) = some r := h;clear h
 by_cases c2 : a0_0 ≥ 0
 rotate_left
 ·rw [if_neg c2] at H;have c2b0 : decide (0 ≤ a0_0) = false := decide_eq_false c2;clear c2;obtain rfl := Option.some.inj H
  go_enter Try.func21, Try.ntmps21
  go_wp2_with (first | ((with_reducible refine gate_dst (N := 1) rfl ?_); (try (refine gate_guard (by rfl) ?_; dsimp only)); refine be 1 #[.int .i64 a0_0, .string a0_1, .int .i64 a0_2, .string a0_3] 46 ?_; intro gb362 hg w17 hbox hb; have BK362 := am (hbox); have GW362 := gq hg HB; have GE362 := gq hg HB; replace HB := lb HB hb; clear hb hbox hg; obtain ⟨hcz18_0, hcz18_1, hcz18_2, hcz18_3, hfz18_0, hfz18_1, hfz18_2, hfz18_3⟩ := g4 BK362))
  go_ret
  exact ⟨by first | rfl | (simp [errW_none, errW_some] <;> rfl) | (simp [*, errW_none, errW_some] <;> rfl), pb HB⟩
 rw [if_pos c2] at H;have c2b0 : decide (0 ≤ a0_0) = true := decide_eq_true c2;clear c2
 by_cases c3 : a0_0 ≤ 2147483647
 rotate_left
 ·rw [if_neg c3] at H;have c3b0 : decide (a0_0 ≤ 2147483647) = false := decide_eq_false c3;clear c3;obtain rfl := Option.some.inj H
  go_enter Try.func21, Try.ntmps21
  go_wp2_with (first | ((with_reducible refine gate_dst (N := 1) rfl ?_); (try (refine gate_guard (by rfl) ?_; dsimp only)); refine be 1 #[.int .i64 a0_0, .string a0_1, .int .i64 a0_2, .string a0_3] 46 ?_; intro gb362 hg w15 hbox hb; have BK362 := am (hbox); have GW362 := gq hg HB; have GE362 := gq hg HB; replace HB := lb HB hb; clear hb hbox hg; obtain ⟨hcz16_0, hcz16_1, hcz16_2, hcz16_3, hfz16_0, hfz16_1, hfz16_2, hfz16_3⟩ := g4 BK362))
  go_ret
  exact ⟨by first | rfl | (simp [errW_none, errW_some] <;> rfl) | (simp [*, errW_none, errW_some] <;> rfl), pb HB⟩
 rw [if_pos c3] at H;have c3b0 : decide (a0_0 ≤ 2147483647) = true := decide_eq_true c3;clear c3
 by_cases c4 : a0_2 ≥ 0
 rotate_left
 ·rw [if_neg c4] at H;have c4b0 : decide (0 ≤ a0_2) = false := decide_eq_false c4;clear c4;obtain rfl := Option.some.inj H
  go_enter Try.func21, Try.ntmps21
  go_wp2_with (first | ((with_reducible refine gate_dst (N := 1) rfl ?_); (try (refine gate_guard (by rfl) ?_; dsimp only)); refine be 1 #[.int .i64 a0_0, .string a0_1, .int .i64 a0_2, .string a0_3] 46 ?_; intro gb362 hg w13 hbox hb; have BK362 := am (hbox); have GW362 := gq hg HB; have GE362 := gq hg HB; replace HB := lb HB hb; clear hb hbox hg; obtain ⟨hcz14_0, hcz14_1, hcz14_2, hcz14_3, hfz14_0, hfz14_1, hfz14_2, hfz14_3⟩ := g4 BK362))
  go_ret
  exact ⟨by first | rfl | (simp [errW_none, errW_some] <;> rfl) | (simp [*, errW_none, errW_some] <;> rfl), pb HB⟩
 rw [if_pos c4] at H;have c4b0 : decide (0 ≤ a0_2) = true := decide_eq_true c4;clear c4
 by_cases c5 : a0_2 ≤ 63
 rotate_left
 ·rw [if_neg c5] at H;have c5b0 : decide (a0_2 ≤ 63) = false := decide_eq_false c5;clear c5;obtain rfl := Option.some.inj H
  go_enter Try.func21, Try.ntmps21
  go_wp2_with (first | ((with_reducible refine gate_dst (N := 1) rfl ?_); (try (refine gate_guard (by rfl) ?_; dsimp only)); refine be 1 #[.int .i64 a0_0, .string a0_1, .int .i64 a0_2, .string a0_3] 46 ?_; intro gb362 hg w11 hbox hb; have BK362 := am (hbox); have GW362 := gq hg HB; have GE362 := gq hg HB; replace HB := lb HB hb; clear hb hbox hg; obtain ⟨hcz12_0, hcz12_1, hcz12_2, hcz12_3, hfz12_0, hfz12_1, hfz12_2, hfz12_3⟩ := g4 BK362))
  go_ret
  exact ⟨by first | rfl | (simp [errW_none, errW_some] <;> rfl) | (simp [*, errW_none, errW_some] <;> rfl), pb HB⟩
 rw [if_pos c5] at H;have c5b0 : decide (a0_2 ≤ 63) = true := decide_eq_true c5;clear c5
 by_cases c6 : (a0_1.size : Int) ≤ 64
 ·rw [if_pos c6] at H;have c6b0 : decide ((a0_1.size : Int) ≤ 64) = true := decide_eq_true c6;have c6b1 : decide (a0_1.size ≤ 64) = true := decide_eq_true (by omega);clear c6;obtain rfl := Option.some.inj H
  go_enter Try.func21, Try.ntmps21
  go_wp2_with (first | ((with_reducible refine gate_dst (N := 1) rfl ?_); (try (refine gate_guard (by rfl) ?_; dsimp only)); refine be 1 #[.int .i64 a0_0, .string a0_1, .int .i64 a0_2, .string a0_3] 46 ?_; intro gb362 hg w7 hbox hb; have BK362 := am (hbox); have GW362 := gq hg HB; have GE362 := gq hg HB; replace HB := lb HB hb; clear hb hbox hg; obtain ⟨hcz8_0, hcz8_1, hcz8_2, hcz8_3, hfz8_0, hfz8_1, hfz8_2, hfz8_3⟩ := g4 BK362))
  go_ret
  exact ⟨by first | rfl | (simp [errW_none, errW_some] <;> rfl) | (simp [*, errW_none, errW_some] <;> rfl), pb HB⟩
 rw [if_neg c6] at H;have c6b0 : decide ((a0_1.size : Int) ≤ 64) = false := decide_eq_false c6;have c6b1 : decide (a0_1.size ≤ 64) = false := decide_eq_false (by omega);clear c6;obtain rfl := Option.some.inj H
 go_enter Try.func21, Try.ntmps21
 go_wp2_with (first | ((with_reducible refine gate_dst (N := 1) rfl ?_); (try (refine gate_guard (by rfl) ?_; dsimp only)); refine be 1 #[.int .i64 a0_0, .string a0_1, .int .i64 a0_2, .string a0_3] 46 ?_; intro gb362 hg w9 hbox hb; have BK362 := am (hbox); have GW362 := gq hg HB; have GE362 := gq hg HB; replace HB := lb HB hb; clear hb hbox hg; obtain ⟨hcz10_0, hcz10_1, hcz10_2, hcz10_3, hfz10_0, hfz10_1, hfz10_2, hfz10_3⟩ := g4 BK362))
 go_ret
 exact ⟨by first | rfl | (simp [errW_none, errW_some] <;> rfl) | (simp [*, errW_none, errW_some] <;> rfl), pb HB⟩
end Go.Proofs.Ytagcobdpojeiiaa.H
