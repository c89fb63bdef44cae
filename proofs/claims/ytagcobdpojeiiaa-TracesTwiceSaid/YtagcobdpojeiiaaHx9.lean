import Derived.Test.YtagcobdpojeiiaaHx0
import Derived.Test.YtagcobdpojeiiaaHx8
namespace Go.Proofs.Ytagcobdpojeiiaa.H
open Go.RowKit Go.Proofs.YtagcobdpojeiiaaW.PrintWords Go.Proofs.YtagcobdpojeiiaaW.PrintLast Go.Proofs.YtagcobdpojeiiaaW.PrintMore Go.Proofs.YtagcobdpojeiiaaW.Sq
attribute [local go_sem] max2_int min2_int max_two min_two max_three min_three max_four min_four
set_option linter.unusedVariables false
set_option linter.unusedSimpArgs false

mutual
def r22_Small.l0 : Nat → Int → Int → Int → Int → Int → Int → Int → List (S73) → Option (Bool)
 | 0, _, _, _, _, _, _, _, _ => none
 | k + 1, x3, x224000, x224001, x224002, x224003, x224004, x224005, x224006 => if x3 < (x224006.length : Int) then (if 0 ≤ x3 then (if (((rd_T73 x224006 x3).f1).length : Int) > 10 then (some false) else (r22_Small.l1 k x3 0 x224000 x224001 x224002 x224003 x224004 x224005 x224006)) else (none)) else ((r22_List.f k x224000 x224001 x224002 x224003 x224004 x224005 x224006).bind fun t224 => (some (decide ((t224.length : Int) ≤ 60))))
def r22_Small.l1 : Nat → Int → Int → Int → Int → Int → Int → Int → Int → List (S73) → Option (Bool)
 | 0, _, _, _, _, _, _, _, _, _ => none
 | k + 1, x3, x4, x224000, x224001, x224002, x224003, x224004, x224005, x224006 => if 0 ≤ x3 then (if x3 < (x224006.length : Int) then (if x4 < (((rd_T73 x224006 x3).f1).length : Int) then (if 0 ≤ x4 then (if (((rd_T71 ((rd_T73 x224006 x3).f1) x4).f0).size : Int) > 100 then (r22_Small.j2 k x3 x4 true x224000 x224001 x224002 x224003 x224004 x224005 x224006 ((rd_T71 ((rd_T73 x224006 x3).f1) x4).f0) ((rd_T71 ((rd_T73 x224006 x3).f1) x4).f1) ((rd_T71 ((rd_T73 x224006 x3).f1) x4).f2)) else (r22_Small.j2 k x3 x4 (decide ((((rd_T71 ((rd_T73 x224006 x3).f1) x4).f2).length : Int) > 10)) x224000 x224001 x224002 x224003 x224004 x224005 x224006 ((rd_T71 ((rd_T73 x224006 x3).f1) x4).f0) ((rd_T71 ((rd_T73 x224006 x3).f1) x4).f1) ((rd_T71 ((rd_T73 x224006 x3).f1) x4).f2))) else (none)) else (r22_Small.l0 k (wrap64 (x3 + 1)) x224000 x224001 x224002 x224003 x224004 x224005 x224006)) else (none)) else (none)
def r22_Small.j2 : Nat → Int → Int → Bool → Int → Int → Int → Int → Int → Int → List (S73) → ByteArray → Int → List (S76) → Option (Bool)
 | 0, _, _, _, _, _, _, _, _, _, _, _, _, _ => none
 | k + 1, x3, x4, x56, x224000, x224001, x224002, x224003, x224004, x224005, x224006, x232000, x232001, x232002 => if x56 = true then (some false) else (r22_Small.l2 k x3 x4 0 x224000 x224001 x224002 x224003 x224004 x224005 x224006 x232000 x232001 x232002)
def r22_Small.l2 : Nat → Int → Int → Int → Int → Int → Int → Int → Int → Int → List (S73) → ByteArray → Int → List (S76) → Option (Bool)
 | 0, _, _, _, _, _, _, _, _, _, _, _, _, _ => none
 | k + 1, x3, x4, x6, x224000, x224001, x224002, x224003, x224004, x224005, x224006, x232000, x232001, x232002 => if x6 < (x232002.length : Int) then (if 0 ≤ x6 then (if (((rd_T76 x232002 x6).f1).length : Int) > 10 then (some false) else (r22_Small.l3 k x3 x4 x6 0 x224000 x224001 x224002 x224003 x224004 x224005 x224006 x232000 x232001 x232002)) else (none)) else (r22_Small.l1 k x3 (wrap64 (x4 + 1)) x224000 x224001 x224002 x224003 x224004 x224005 x224006)
def r22_Small.l3 : Nat → Int → Int → Int → Int → Int → Int → Int → Int → Int → Int → List (S73) → ByteArray → Int → List (S76) → Option (Bool)
 | 0, _, _, _, _, _, _, _, _, _, _, _, _, _, _ => none
 | k + 1, x3, x4, x6, x7, x224000, x224001, x224002, x224003, x224004, x224005, x224006, x232000, x232001, x232002 => if 0 ≤ x6 then (if x6 < (x232002.length : Int) then (if x7 < (((rd_T76 x232002 x6).f1).length : Int) then (if 0 ≤ x7 then (if (((rd_T78 ((rd_T76 x232002 x6).f1) x7).f0).size : Int) > 100 then (some false) else (r22_Small.l3 k x3 x4 x6 (wrap64 (x7 + 1)) x224000 x224001 x224002 x224003 x224004 x224005 x224006 x232000 x232001 x232002)) else (none)) else (r22_Small.l2 k x3 x4 (wrap64 (x6 + 1)) x224000 x224001 x224002 x224003 x224004 x224005 x224006 x232000 x232001 x232002)) else (none)) else (none)
end
def r22_Small.f (k : Nat) (a0_0 : Int) (a0_1 : Int) (a0_2 : Int) (a0_3 : Int) (a0_4 : Int) (a0_5 : Int) (l0_6 : List (S73)) : Option (Bool) := if (l0_6.length : Int) > 10 then (some false) else (r22_Small.l0 k 0 a0_0 a0_1 a0_2 a0_3 a0_4 a0_5 l0_6)
theorem r22_Small.mono_l : ∀ k, (∀ y0 y1 y2 y3 y4 y5 y6 y7, LeO (r22_Small.l0 k y0 y1 y2 y3 y4 y5 y6 y7) (r22_Small.l0 (k + 1) y0 y1 y2 y3 y4 y5 y6 y7)) ∧ (∀ y0 y1 y2 y3 y4 y5 y6 y7 y8, LeO (r22_Small.l1 k y0 y1 y2 y3 y4 y5 y6 y7 y8) (r22_Small.l1 (k + 1) y0 y1 y2 y3 y4 y5 y6 y7 y8)) ∧ (∀ y0 y1 y2 y3 y4 y5 y6 y7 y8 y9 y10 y11 y12, LeO (r22_Small.j2 k y0 y1 y2 y3 y4 y5 y6 y7 y8 y9 y10 y11 y12) (r22_Small.j2 (k + 1) y0 y1 y2 y3 y4 y5 y6 y7 y8 y9 y10 y11 y12)) ∧ (∀ y0 y1 y2 y3 y4 y5 y6 y7 y8 y9 y10 y11 y12, LeO (r22_Small.l2 k y0 y1 y2 y3 y4 y5 y6 y7 y8 y9 y10 y11 y12) (r22_Small.l2 (k + 1) y0 y1 y2 y3 y4 y5 y6 y7 y8 y9 y10 y11 y12)) ∧ (∀ y0 y1 y2 y3 y4 y5 y6 y7 y8 y9 y10 y11 y12 y13, LeO (r22_Small.l3 k y0 y1 y2 y3 y4 y5 y6 y7 y8 y9 y10 y11 y12 y13) (r22_Small.l3 (k + 1) y0 y1 y2 y3 y4 y5 y6 y7 y8 y9 y10 y11 y12 y13))
 | 0 => ⟨fun _ _ _ _ _ _ _ _ r h => by simp [r22_Small.l0] at h, fun _ _ _ _ _ _ _ _ _ r h => by simp [r22_Small.l1] at h, fun _ _ _ _ _ _ _ _ _ _ _ _ _ r h => by simp [r22_Small.j2] at h, fun _ _ _ _ _ _ _ _ _ _ _ _ _ r h => by simp [r22_Small.l2] at h, fun _ _ _ _ _ _ _ _ _ _ _ _ _ _ r h => by simp [r22_Small.l3] at h⟩
 | k + 1 => by
  obtain ⟨ih0, ih1, ih2, ih3, ih4⟩ := r22_Small.mono_l k
  refine ⟨?_, ?_, ?_, ?_, ?_⟩
  ·intro y0 y1 y2 y3 y4 y5 y6 y7
   unfold r22_Small.l0
   repeat' first
   | (with_reducible exact ih0 _ _ _ _ _ _ _ _)
   | (with_reducible exact ih1 _ _ _ _ _ _ _ _ _)
   | (with_reducible exact ih2 _ _ _ _ _ _ _ _ _ _ _ _ _)
   | (with_reducible exact ih3 _ _ _ _ _ _ _ _ _ _ _ _ _)
   | (with_reducible exact ih4 _ _ _ _ _ _ _ _ _ _ _ _ _ _)
   | (with_reducible exact r22_List.mono _ _ _ _ _ _ _ _)
   | (with_reducible exact LeO.refl _)
   | (with_reducible exact LeO.none _)
   | (with_reducible refine LeO.ite ?_ ?_)
   | (with_reducible refine LeO.bind ?_ (fun _ => ?_))
  ·intro y0 y1 y2 y3 y4 y5 y6 y7 y8
   unfold r22_Small.l1
   repeat' first
   | (with_reducible exact ih0 _ _ _ _ _ _ _ _)
   | (with_reducible exact ih1 _ _ _ _ _ _ _ _ _)
   | (with_reducible exact ih2 _ _ _ _ _ _ _ _ _ _ _ _ _)
   | (with_reducible exact ih3 _ _ _ _ _ _ _ _ _ _ _ _ _)
   | (with_reducible exact ih4 _ _ _ _ _ _ _ _ _ _ _ _ _ _)
   | (with_reducible exact r22_List.mono _ _ _ _ _ _ _ _)
   | (with_reducible exact LeO.refl _)
   | (with_reducible exact LeO.none _)
   | (with_reducible refine LeO.ite ?_ ?_)
   | (with_reducible refine LeO.bind ?_ (fun _ => ?_))
  ·intro y0 y1 y2 y3 y4 y5 y6 y7 y8 y9 y10 y11 y12
   unfold r22_Small.j2
   repeat' first
   | (with_reducible exact ih0 _ _ _ _ _ _ _ _)
   | (with_reducible exact ih1 _ _ _ _ _ _ _ _ _)
   | (with_reducible exact ih2 _ _ _ _ _ _ _ _ _ _ _ _ _)
   | (with_reducible exact ih3 _ _ _ _ _ _ _ _ _ _ _ _ _)
   | (with_reducible exact ih4 _ _ _ _ _ _ _ _ _ _ _ _ _ _)
   | (with_reducible exact r22_List.mono _ _ _ _ _ _ _ _)
   | (with_reducible exact LeO.refl _)
   | (with_reducible exact LeO.none _)
   | (with_reducible refine LeO.ite ?_ ?_)
   | (with_reducible refine LeO.bind ?_ (fun _ => ?_))
  ·intro y0 y1 y2 y3 y4 y5 y6 y7 y8 y9 y10 y11 y12
   unfold r22_Small.l2
   repeat' first
   | (with_reducible exact ih0 _ _ _ _ _ _ _ _)
   | (with_reducible exact ih1 _ _ _ _ _ _ _ _ _)
   | (with_reducible exact ih2 _ _ _ _ _ _ _ _ _ _ _ _ _)
   | (with_reducible exact ih3 _ _ _ _ _ _ _ _ _ _ _ _ _)
   | (with_reducible exact ih4 _ _ _ _ _ _ _ _ _ _ _ _ _ _)
   | (with_reducible exact r22_List.mono _ _ _ _ _ _ _ _)
   | (with_reducible exact LeO.refl _)
   | (with_reducible exact LeO.none _)
   | (with_reducible refine LeO.ite ?_ ?_)
   | (with_reducible refine LeO.bind ?_ (fun _ => ?_))
  ·intro y0 y1 y2 y3 y4 y5 y6 y7 y8 y9 y10 y11 y12 y13
   unfold r22_Small.l3
   repeat' first
   | (with_reducible exact ih0 _ _ _ _ _ _ _ _)
   | (with_reducible exact ih1 _ _ _ _ _ _ _ _ _)
   | (with_reducible exact ih2 _ _ _ _ _ _ _ _ _ _ _ _ _)
   | (with_reducible exact ih3 _ _ _ _ _ _ _ _ _ _ _ _ _)
   | (with_reducible exact ih4 _ _ _ _ _ _ _ _ _ _ _ _ _ _)
   | (with_reducible exact r22_List.mono _ _ _ _ _ _ _ _)
   | (with_reducible exact LeO.refl _)
   | (with_reducible exact LeO.none _)
   | (with_reducible refine LeO.ite ?_ ?_)
   | (with_reducible refine LeO.bind ?_ (fun _ => ?_))
theorem r22_Small.mono : ∀ a0 a1 a2 a3 a4 a5 a6 k, LeO (r22_Small.f k a0 a1 a2 a3 a4 a5 a6) (r22_Small.f (k + 1) a0 a1 a2 a3 a4 a5 a6) := by
 intro a0 a1 a2 a3 a4 a5 a6 k
 obtain ⟨ih0, ih1, ih2, ih3, ih4⟩ := r22_Small.mono_l k
 unfold r22_Small.f
 repeat' first
   | (with_reducible exact ih0 _ _ _ _ _ _ _ _)
   | (with_reducible exact ih1 _ _ _ _ _ _ _ _ _)
   | (with_reducible exact ih2 _ _ _ _ _ _ _ _ _ _ _ _ _)
   | (with_reducible exact ih3 _ _ _ _ _ _ _ _ _ _ _ _ _)
   | (with_reducible exact ih4 _ _ _ _ _ _ _ _ _ _ _ _ _ _)
   | (with_reducible exact r22_List.mono _ _ _ _ _ _ _ _)
   | (with_reducible exact LeO.refl _)
   | (with_reducible exact LeO.none _)
   | (with_reducible refine LeO.ite ?_ ?_)
   | (with_reducible refine LeO.bind ?_ (fun _ => ?_))
set_option maxHeartbeats 8000000 in
set_option maxRecDepth 100000 in
theorem r22_Small.calls (k : Nat) (a0_0 : Int) (a0_1 : Int) (a0_2 : Int) (a0_3 : Int) (a0_4 : Int) (a0_5 : Int) (A0_6 : Option Addr) (c0_6 : Nat) (l0_6 : List (S73)) (r : Bool) (w : World) (hr0_6 : Kd.C k73 w A0_6 l0_6.length l0_6) (hc0_6 : l0_6.length ≤ c0_6) (h : r22_Small.f k a0_0 a0_1 a0_2 a0_3 a0_4 a0_5 l0_6 = some r) :
  Calls Try.prog 10 #[.agg #[.int .u64 a0_0, .int .u64 a0_1, .int .i64 a0_2, .int .i64 a0_3, .int .i64 a0_4, .int .i64 a0_5, .slice A0_6 l0_6.length c0_6]] w fun e w' => e = .returned (.bool r) ∧ Below w.heap.size w w' := by
 have hu32 := Try.underlying32;have hu71 := Try.underlying71;have HR0_6 := am hr0_6;have HC0_6 := am hc0_6;clear hr0_6 hc0_6;have HB := am (Below.refl w.heap.size w);have H : (if (l0_6.length : Int) > 10 then (some false) else (r22_Small.l0 k 0 a0_0 a0_1 a0_2 a0_3 a0_4 a0_5 l0_6)) = some r := h;clear h
 by_cases c2 : (l0_6.length : Int) > 10
 ·rw [if_pos c2] at H;have c2b0 : decide (10 < (l0_6.length : Int)) = true := decide_eq_true c2;have c2b1 : decide (10 < l0_6.length) = true := decide_eq_true (by omega);clear c2;obtain rfl := Option.some.inj H
  go_enter Try.func10, Try.ntmps10
  go_wp2_with (first | ((with_reducible refine gate_dst (N := 1) rfl ?_); (try (refine gate_guard (by rfl) ?_; dsimp only)); refine be 1 #[.int .u64 a0_0, .int .u64 a0_1, .int .i64 a0_2, .int .i64 a0_3, .int .i64 a0_4, .int .i64 a0_5, .slice A0_6 l0_6.length c0_6] 32 ?_; intro gb223 hg w3 hbox hb; have BK223 := am (hbox); have GW223 := gq hg HB; have GE223 := gq hg HB; replace HB := lb HB hb; clear hb hbox hg; obtain ⟨hcz4_0, hcz4_1, hcz4_2, hcz4_3, hcz4_4, hcz4_5, hcz4_6, hfz4_0, hfz4_1, hfz4_2, hfz4_3, hfz4_4, hfz4_5, hfz4_6⟩ := g7 BK223))
  go_ret
  exact ey (h := pb HB)
 rw [if_neg c2] at H;have c2b0 : decide (10 < (l0_6.length : Int)) = false := decide_eq_false c2;have c2b1 : decide (10 < l0_6.length) = false := decide_eq_false (by omega);clear c2;have H' := am H;clear H
 go_enter Try.func10, Try.ntmps10
 go_wp2_with (first | ((with_reducible refine gate_dst (N := 1) rfl ?_); (try (refine gate_guard (by rfl) ?_; dsimp only)); refine be 1 #[.int .u64 a0_0, .int .u64 a0_1, .int .i64 a0_2, .int .i64 a0_3, .int .i64 a0_4, .int .i64 a0_5, .slice A0_6 l0_6.length c0_6] 32 ?_; intro gb223 hg w5 hbox hb; have BK223 := am (hbox); have GW223 := gq hg HB; have GE223 := gq hg HB; replace HB := lb HB hb; clear hb hbox hg; obtain ⟨hcz6_0, hcz6_1, hcz6_2, hcz6_3, hcz6_4, hcz6_5, hcz6_6, hfz6_0, hfz6_1, hfz6_2, hfz6_3, hfz6_4, hfz6_5, hfz6_6⟩ := g7 BK223))
 go_loopg [3] k (fun kq v3 w' => ∃ (x3_1 : Int), v3 = .int .i64 x3_1 ∧ Aside0 (r22_Small.l0 kq x3_1 a0_0 a0_1 a0_2 a0_3 a0_4 a0_5 l0_6 = some r) ∧ Aside0 (kq ≤ k) ∧ Aside0 (w'.heap[gb223]? = some (.cells #[.int .u64 a0_0, .int .u64 a0_1, .int .i64 a0_2, .int .i64 a0_3, .int .i64 a0_4, .int .i64 a0_5, (.slice A0_6 l0_6.length c0_6)] 32 (0, 0))) ∧ Aside0 (Below w.heap.size w w'))
 case atStart => exact ⟨(0), eR, H', ⟨Nat.le_refl _⟩, ⟨pk BK223.out⟩, ⟨pb HB⟩⟩
 case round =>
  clear H';(try clear c1);(try clear c2);(try clear c2b0);(try clear c2b1);(try clear p2);(try clear hcz4_0 hcz4_1 hcz4_2 hcz4_3 hcz4_4 hcz4_5 hcz4_6);(try clear hcz6_0 hcz6_1 hcz6_2 hcz6_3 hcz6_4 hcz6_5 hcz6_6);(try clear hfz4_0 hfz4_1 hfz4_2 hfz4_3 hfz4_4 hfz4_5 hfz4_6);(try clear hfz6_0 hfz6_1 hfz6_2 hfz6_3 hfz6_4 hfz6_5 hfz6_6);obtain ⟨x3_1, rfl, HA, HK1, BK223, HB⟩ := hrel
  cases gk with
  | zero => exact absurd HA.out (by simp [r22_Small.l0])
  | succ k1 =>
   have H := HA.out;clear HA
   simp only [r22_Small.l0] at H
   by_cases c7 : x3_1 < (l0_6.length : Int)
   ·rw [if_pos c7] at H;have c7b0 : decide (x3_1 < (l0_6.length : Int)) = true := decide_eq_true c7;clear c7
    by_cases c8 : 0 ≤ x3_1
    ·rw [if_pos c8] at H;have c8b0 : decide (0 ≤ x3_1) = true := decide_eq_true c8;clear c8
     by_cases c9 : (((rd_T73 l0_6 x3_1).f1).length : Int) > 10
     ·rw [if_pos c9] at H;have c9b0 : decide (10 < (((rd_T73 l0_6 x3_1).f1).length : Int)) = true := decide_eq_true c9;have c9b1 : decide (10 < ((rd_T73 l0_6 x3_1).f1).length) = true := decide_eq_true (by omega);clear c9;obtain rfl := Option.some.inj H;obtain ⟨hcz10_0, hcz10_1, hcz10_2, hcz10_3, hcz10_4, hcz10_5, hcz10_6, hfz10_0, hfz10_1, hfz10_2, hfz10_3, hfz10_4, hfz10_5, hfz10_6⟩ := g7 BK223;have p227 : 0 ≤ (x3_1 : Int) := od;have q227 : x3_1 < (l0_6.length : Int) := od;obtain ⟨ad227, A227_1, c227_1, e227, hx227_0, hx227_1, hl227_1, hi227_1⟩ := at_T73 HR0_6.out x3_1 p227 q227;cases e227;replace hx227_0 := hQ HB hx227_0;replace hx227_1 := hQ HB hx227_1;have HR227_1 := am hi227_1;have HC227_1 := am hl227_1;clear hi227_1 hl227_1;replace p227 := eq_true p227;replace q227 := eq_true q227
      go_wp2
      go_ret
      exact ey (h := pb HB)
     ·rw [if_neg c9] at H;have c9b0 : decide (10 < (((rd_T73 l0_6 x3_1).f1).length : Int)) = false := decide_eq_false c9;have c9b1 : decide (10 < ((rd_T73 l0_6 x3_1).f1).length) = false := decide_eq_false (by omega);clear c9;have H' := am H;clear H;obtain ⟨hcz11_0, hcz11_1, hcz11_2, hcz11_3, hcz11_4, hcz11_5, hcz11_6, hfz11_0, hfz11_1, hfz11_2, hfz11_3, hfz11_4, hfz11_5, hfz11_6⟩ := g7 BK223;have p227 : 0 ≤ (x3_1 : Int) := od;have q227 : x3_1 < (l0_6.length : Int) := od;obtain ⟨ad227, A227_1, c227_1, e227, hx227_0, hx227_1, hl227_1, hi227_1⟩ := at_T73 HR0_6.out x3_1 p227 q227;cases e227;replace hx227_0 := hQ HB hx227_0;replace hx227_1 := hQ HB hx227_1;have HR227_1 := am hi227_1;have HC227_1 := am hl227_1;clear hi227_1 hl227_1;replace p227 := eq_true p227;replace q227 := eq_true q227
      go_wp2
      go_loopg [4] k1 (fun kq v4 w' => ∃ (x4_2 : Int), v4 = .int .i64 x4_2 ∧ Aside0 (r22_Small.l1 kq x3_1 x4_2 a0_0 a0_1 a0_2 a0_3 a0_4 a0_5 l0_6 = some r) ∧ Aside0 (kq ≤ k1) ∧ Aside0 (w'.heap[gb223]? = some (.cells #[.int .u64 a0_0, .int .u64 a0_1, .int .i64 a0_2, .int .i64 a0_3, .int .i64 a0_4, .int .i64 a0_5, (.slice (some ad227) l0_6.length c0_6)] 32 (0, 0))) ∧ Aside0 (Below w.heap.size w w'))
      case atStart => exact ⟨(0), eR, H', ⟨Nat.le_refl _⟩, ⟨pk BK223.out⟩, ⟨pb HB⟩⟩
      case round =>
       clear H';(try clear c1);(try clear c2);(try clear c2b0);(try clear c2b1);(try clear p2);(try clear q2);(try clear hx2);(try clear c7);(try clear c7b0);(try clear c8);(try clear c8b0);(try clear c9);(try clear c9b0);(try clear c9b1);(try clear c10);(try clear hcz10_0 hcz10_1 hcz10_2 hcz10_3 hcz10_4 hcz10_5 hcz10_6);(try clear hcz11_0 hcz11_1 hcz11_2 hcz11_3 hcz11_4 hcz11_5 hcz11_6);(try clear hcz4_0 hcz4_1 hcz4_2 hcz4_3 hcz4_4 hcz4_5 hcz4_6);(try clear hcz6_0 hcz6_1 hcz6_2 hcz6_3 hcz6_4 hcz6_5 hcz6_6);(try clear hfz10_0 hfz10_1 hfz10_2 hfz10_3 hfz10_4 hfz10_5 hfz10_6);(try clear hfz11_0 hfz11_1 hfz11_2 hfz11_3 hfz11_4 hfz11_5 hfz11_6);(try clear hfz4_0 hfz4_1 hfz4_2 hfz4_3 hfz4_4 hfz4_5 hfz4_6);(try clear hfz6_0 hfz6_1 hfz6_2 hfz6_3 hfz6_4 hfz6_5 hfz6_6);(try clear hx227_0);(try clear hx227_1);(try clear p2);(try clear p227);(try clear q227);obtain ⟨x4_2, rfl, HA, HK2, BK223, HB⟩ := hrel
       cases gk with
       | zero => exact absurd HA.out (by simp [r22_Small.l1])
       | succ k2 =>
        have H := HA.out;clear HA
        simp only [r22_Small.l1] at H
        by_cases c12 : 0 ≤ x3_1
        ·rw [if_pos c12] at H;have c12b0 : decide (0 ≤ x3_1) = true := decide_eq_true c12;clear c12
         by_cases c13 : x3_1 < (l0_6.length : Int)
         ·rw [if_pos c13] at H;have c13b0 : decide (x3_1 < (l0_6.length : Int)) = true := decide_eq_true c13;clear c13
          by_cases c14 : x4_2 < (((rd_T73 l0_6 x3_1).f1).length : Int)
          ·rw [if_pos c14] at H;have c14b0 : decide (x4_2 < (((rd_T73 l0_6 x3_1).f1).length : Int)) = true := decide_eq_true c14;clear c14
           by_cases c15 : 0 ≤ x4_2
           ·rw [if_pos c15] at H;have c15b0 : decide (0 ≤ x4_2) = true := decide_eq_true c15;clear c15;have HC16 := am H;clear H;obtain ⟨hcz17_0, hcz17_1, hcz17_2, hcz17_3, hcz17_4, hcz17_5, hcz17_6, hfz17_0, hfz17_1, hfz17_2, hfz17_3, hfz17_4, hfz17_5, hfz17_6⟩ := g7 BK223;have p228 : 0 ≤ (x3_1 : Int) := od;have q228 : x3_1 < (l0_6.length : Int) := od;obtain ⟨ad228, A228_1, c228_1, e228, hx228_0, hx228_1, hl228_1, hi228_1⟩ := at_T73 HR0_6.out x3_1 p228 q228;obtain rfl : ad227 = ad228 := (by injection e228);replace hx228_0 := hQ HB hx228_0;replace hx228_1 := hQ HB hx228_1;have HR228_1 := am hi228_1;have HC228_1 := am hl228_1;clear hi228_1 hl228_1;replace p228 := eq_true p228;replace q228 := eq_true q228;have p229 : 0 ≤ (x3_1 : Int) := od;have q229 : x3_1 < (l0_6.length : Int) := od;obtain ⟨ad229, A229_1, c229_1, e229, hx229_0, hx229_1, hl229_1, hi229_1⟩ := at_T73 HR0_6.out x3_1 p229 q229;obtain rfl : ad227 = ad229 := (by injection e229);replace hx229_0 := hQ HB hx229_0;replace hx229_1 := hQ HB hx229_1;have HR229_1 := am hi229_1;have HC229_1 := am hl229_1;clear hi229_1 hl229_1;replace p229 := eq_true p229;replace q229 := eq_true q229;have ea_ := Option.some.inj (hx228_1.symm.trans hx229_1)
            injection ea_ with ea_ en_ ec_
            subst ea_;subst ec_;clear en_;have p230 : 0 ≤ (x4_2 : Int) := od;have q230 : x4_2 < (((rd_T73 l0_6 x3_1).f1).length : Int) := od;obtain ⟨ad230, A230_2, c230_2, e230, hx230_0, hx230_1, hx230_2, hl230_2, hi230_2⟩ := at_T71 HR229_1.out x4_2 p230 q230;cases e230;replace hx230_0 := hQ HB hx230_0;replace hx230_1 := hQ HB hx230_1;replace hx230_2 := hQ HB hx230_2;have HR230_2 := am hi230_2;have HC230_2 := am hl230_2;clear hi230_2 hl230_2;replace p230 := eq_true p230;replace q230 := eq_true q230
            go_upto_region 12 with (first | ((with_reducible refine gate_dst (N := 5) rfl ?_); (try (refine gate_guard (by rfl) ?_; dsimp only)); refine be 5 #[.string (⟨#[]⟩ : ByteArray), .int .u64 0, .slice none 0 0] 71 ?_; intro gb231 hg w18 hbox hb; have BK231 := am (hbox); have GW231 := gq hg HB; have GE231 := gq hg HB; replace HB := lb HB hb; obtain ⟨NB223_231, NB231_223, hnc19, hnb19⟩ := pm hg BK223; replace BK223 := kb BK223 hb; clear hb hbox hg; obtain ⟨hcz20_0, hcz20_1, hcz20_2, hfz20_0, hfz20_1, hfz20_2⟩ := g3 BK231))
            (try simp only [Act.put, List.setIfInBounds_toArray, List.set_cons_zero, List.set_cons_succ])
            go_cut [56] (fun v56 wc => ∃ (kq : Nat) (x56_15 : Bool), v56 = .bool x56_15 ∧ Aside0 (r22_Small.j2 kq x3_1 x4_2 x56_15 a0_0 a0_1 a0_2 a0_3 a0_4 a0_5 l0_6 ((rd_T71 ((rd_T73 l0_6 x3_1).f1) x4_2).f0) ((rd_T71 ((rd_T73 l0_6 x3_1).f1) x4_2).f1) ((rd_T71 ((rd_T73 l0_6 x3_1).f1) x4_2).f2) = some r) ∧ Aside0 (kq ≤ k2) ∧ Aside0 (wc.heap[gb223]? = some (.cells #[.int .u64 a0_0, .int .u64 a0_1, .int .i64 a0_2, .int .i64 a0_3, .int .i64 a0_4, .int .i64 a0_5, (.slice (some ad227) l0_6.length c0_6)] 32 (0, 0))) ∧ Aside0 (wc.heap[gb231]? = some (.cells #[.string ((rd_T71 ((rd_T73 l0_6 x3_1).f1) x4_2).f0), .int .u64 ((rd_T71 ((rd_T73 l0_6 x3_1).f1) x4_2).f1), (.slice A230_2 ((rd_T71 ((rd_T73 l0_6 x3_1).f1) x4_2).f2).length c230_2)] 71 (0, 0))) ∧ Aside0 (Below w.heap.size w wc))
            case first =>
             have H := HC16.out;clear HC16
             by_cases c21 : (((rd_T71 ((rd_T73 l0_6 x3_1).f1) x4_2).f0).size : Int) > 100
             ·rw [if_pos c21] at H;have c21b0 : decide (100 < (((rd_T71 ((rd_T73 l0_6 x3_1).f1) x4_2).f0).size : Int)) = true := decide_eq_true c21;have c21b1 : decide (100 < ((rd_T71 ((rd_T73 l0_6 x3_1).f1) x4_2).f0).size) = true := decide_eq_true (by omega);clear c21
              (first | rw [c21b0] | (simp only [i64_w, i32_w]; rw [c21b0]) | skip)
              have H' := am H;clear H;have hnb22 := NB231_223.out;have hnc22 := NB223_231.out;obtain ⟨hcz23_0, hcz23_1, hcz23_2, hfz23_0, hfz23_1, hfz23_2⟩ := g3 BK231
              go_wp2
              go_meet
              case rel => exact ⟨_, (true), eR, H', ⟨by have := HK1.out; have := HK2.out; first | omega | exact Nat.le_refl _⟩, ⟨(bf (f3 rfl) BK223 NB223_231.out).out⟩, ⟨(s3 rfl BK231).out⟩, ⟨pb HB⟩⟩
             ·rw [if_neg c21] at H;have c21b0 : decide (100 < (((rd_T71 ((rd_T73 l0_6 x3_1).f1) x4_2).f0).size : Int)) = false := decide_eq_false c21;have c21b1 : decide (100 < ((rd_T71 ((rd_T73 l0_6 x3_1).f1) x4_2).f0).size) = false := decide_eq_false (by omega);clear c21
              (first | rw [c21b0] | (simp only [i64_w, i32_w]; rw [c21b0]) | skip)
              have H' := am H;clear H;have hnb24 := NB231_223.out;have hnc24 := NB223_231.out;obtain ⟨hcz25_0, hcz25_1, hcz25_2, hfz25_0, hfz25_1, hfz25_2⟩ := g3 BK231
              go_wp2
              go_meet
              case rel => exact ⟨_, (decide ((((rd_T71 ((rd_T73 l0_6 x3_1).f1) x4_2).f2).length : Int) > 10)), eR, H', ⟨by have := HK1.out; have := HK2.out; first | omega | exact Nat.le_refl _⟩, ⟨(bf (f3 rfl) BK223 NB223_231.out).out⟩, ⟨(s3 rfl BK231).out⟩, ⟨pb HB⟩⟩
            case rest =>
             clear HC16;(try clear c1);(try clear c2);(try clear c2b0);(try clear c2b1);(try clear p2);(try clear q2);(try clear hx2);(try clear c7);(try clear c7b0);(try clear c8);(try clear c8b0);(try clear c9);(try clear c9b0);(try clear c9b1);(try clear c10);(try clear c12);(try clear c12b0);(try clear c13);(try clear c13b0);(try clear c14);(try clear c14b0);(try clear c15);(try clear c15b0);(try clear c19);(try clear c21);(try clear c21b0);(try clear c21b1);(try clear c22);(try clear p22);(try clear q22);(try clear hx22);(try clear c23);(try clear p23);(try clear q23);(try clear hx23);(try clear c24);(try clear hcz10_0 hcz10_1 hcz10_2 hcz10_3 hcz10_4 hcz10_5 hcz10_6);(try clear hcz11_0 hcz11_1 hcz11_2 hcz11_3 hcz11_4 hcz11_5 hcz11_6);(try clear hcz17_0 hcz17_1 hcz17_2 hcz17_3 hcz17_4 hcz17_5 hcz17_6);(try clear hcz20_0 hcz20_1 hcz20_2);(try clear hcz23_0 hcz23_1 hcz23_2);(try clear hcz25_0 hcz25_1 hcz25_2);(try clear hcz4_0 hcz4_1 hcz4_2 hcz4_3 hcz4_4 hcz4_5 hcz4_6);(try clear hcz6_0 hcz6_1 hcz6_2 hcz6_3 hcz6_4 hcz6_5 hcz6_6);(try clear hfz10_0 hfz10_1 hfz10_2 hfz10_3 hfz10_4 hfz10_5 hfz10_6);(try clear hfz11_0 hfz11_1 hfz11_2 hfz11_3 hfz11_4 hfz11_5 hfz11_6);(try clear hfz17_0 hfz17_1 hfz17_2 hfz17_3 hfz17_4 hfz17_5 hfz17_6);(try clear hfz20_0 hfz20_1 hfz20_2);(try clear hfz23_0 hfz23_1 hfz23_2);(try clear hfz25_0 hfz25_1 hfz25_2);(try clear hfz4_0 hfz4_1 hfz4_2 hfz4_3 hfz4_4 hfz4_5 hfz4_6);(try clear hfz6_0 hfz6_1 hfz6_2 hfz6_3 hfz6_4 hfz6_5 hfz6_6);(try clear hx227_0);(try clear hx227_1);(try clear hx228_0);(try clear hx228_1);(try clear hx229_0);(try clear hx229_1);(try clear hx230_0);(try clear hx230_1);(try clear hx230_2);(try clear p2);(try clear p227);(try clear p228);(try clear p229);(try clear p230);(try clear q2);(try clear q227);(try clear q228);(try clear q229);(try clear q230);obtain ⟨kq, x56_15, rfl, HA, HJ15, BK223, BK231, HB⟩ := hcut
             cases kq with
             | zero => exact absurd HA.out (by simp [r22_Small.j2])
             | succ kj15 =>
              have H := HA.out;clear HA
              simp only [r22_Small.j2] at H
              by_cases c26 : x56_15 = true
              ·subst c26
               have H1 : (some false) = some r := by rw [if_pos rfl] at H; exact H
               clear H;have H := H1;clear H1;obtain rfl := Option.some.inj H
               go_wp2
               go_ret
               exact ey (h := pb HB)
              ·replace c26 := Bool.eq_false_iff.mpr c26;subst c26
               have H1 : (r22_Small.l2 kj15 x3_1 x4_2 0 a0_0 a0_1 a0_2 a0_3 a0_4 a0_5 l0_6 ((rd_T71 ((rd_T73 l0_6 x3_1).f1) x4_2).f0) ((rd_T71 ((rd_T73 l0_6 x3_1).f1) x4_2).f1) ((rd_T71 ((rd_T73 l0_6 x3_1).f1) x4_2).f2)) = some r := by rw [if_neg (show ¬ (false = true) by decide)] at H; exact H
               clear H;have H := H1;clear H1;have H' := am H;clear H
               go_wp2
               go_loopg [6] kj15 (fun kq v6 w' => ∃ (x6_4 : Int), v6 = .int .i64 x6_4 ∧ Aside0 (r22_Small.l2 kq x3_1 x4_2 x6_4 a0_0 a0_1 a0_2 a0_3 a0_4 a0_5 l0_6 ((rd_T71 ((rd_T73 l0_6 x3_1).f1) x4_2).f0) ((rd_T71 ((rd_T73 l0_6 x3_1).f1) x4_2).f1) ((rd_T71 ((rd_T73 l0_6 x3_1).f1) x4_2).f2) = some r) ∧ Aside0 (kq ≤ kj15) ∧ Aside0 (w'.heap[gb223]? = some (.cells #[.int .u64 a0_0, .int .u64 a0_1, .int .i64 a0_2, .int .i64 a0_3, .int .i64 a0_4, .int .i64 a0_5, (.slice (some ad227) l0_6.length c0_6)] 32 (0, 0))) ∧ Aside0 (w'.heap[gb231]? = some (.cells #[.string ((rd_T71 ((rd_T73 l0_6 x3_1).f1) x4_2).f0), .int .u64 ((rd_T71 ((rd_T73 l0_6 x3_1).f1) x4_2).f1), (.slice A230_2 ((rd_T71 ((rd_T73 l0_6 x3_1).f1) x4_2).f2).length c230_2)] 71 (0, 0))) ∧ Aside0 (Below w.heap.size w w'))
               case atStart => exact ⟨(0), eR, H', ⟨Nat.le_refl _⟩, ⟨pk BK223.out⟩, ⟨pk BK231.out⟩, ⟨pb HB⟩⟩
               case round =>
                clear H';(try clear c1);(try clear c2);(try clear c2b0);(try clear c2b1);(try clear p2);(try clear q2);(try clear hx2);(try clear c7);(try clear c7b0);(try clear c8);(try clear c8b0);(try clear c9);(try clear c9b0);(try clear c9b1);(try clear c10);(try clear c12);(try clear c12b0);(try clear c13);(try clear c13b0);(try clear c14);(try clear c14b0);(try clear c15);(try clear c15b0);(try clear c19);(try clear c21);(try clear c21b0);(try clear c21b1);(try clear c22);(try clear p22);(try clear q22);(try clear hx22);(try clear c23);(try clear p23);(try clear q23);(try clear hx23);(try clear c24);(try clear c26);(try clear hcz10_0 hcz10_1 hcz10_2 hcz10_3 hcz10_4 hcz10_5 hcz10_6);(try clear hcz11_0 hcz11_1 hcz11_2 hcz11_3 hcz11_4 hcz11_5 hcz11_6);(try clear hcz17_0 hcz17_1 hcz17_2 hcz17_3 hcz17_4 hcz17_5 hcz17_6);(try clear hcz20_0 hcz20_1 hcz20_2);(try clear hcz23_0 hcz23_1 hcz23_2);(try clear hcz25_0 hcz25_1 hcz25_2);(try clear hcz4_0 hcz4_1 hcz4_2 hcz4_3 hcz4_4 hcz4_5 hcz4_6);(try clear hcz6_0 hcz6_1 hcz6_2 hcz6_3 hcz6_4 hcz6_5 hcz6_6);(try clear hfz10_0 hfz10_1 hfz10_2 hfz10_3 hfz10_4 hfz10_5 hfz10_6);(try clear hfz11_0 hfz11_1 hfz11_2 hfz11_3 hfz11_4 hfz11_5 hfz11_6);(try clear hfz17_0 hfz17_1 hfz17_2 hfz17_3 hfz17_4 hfz17_5 hfz17_6);(try clear hfz20_0 hfz20_1 hfz20_2);(try clear hfz23_0 hfz23_1 hfz23_2);(try clear hfz25_0 hfz25_1 hfz25_2);(try clear hfz4_0 hfz4_1 hfz4_2 hfz4_3 hfz4_4 hfz4_5 hfz4_6);(try clear hfz6_0 hfz6_1 hfz6_2 hfz6_3 hfz6_4 hfz6_5 hfz6_6);(try clear hx227_0);(try clear hx227_1);(try clear hx228_0);(try clear hx228_1);(try clear hx229_0);(try clear hx229_1);(try clear hx230_0);(try clear hx230_1);(try clear hx230_2);(try clear p2);(try clear p22);(try clear p227);(try clear p228);(try clear p229);(try clear p23);(try clear p230);(try clear q2);(try clear q22);(try clear q227);(try clear q228);(try clear q229);(try clear q23);(try clear q230);obtain ⟨x6_4, rfl, HA, HK4, BK223, BK231, HB⟩ := hrel
                cases gk with
                | zero => exact absurd HA.out (by simp [r22_Small.l2])
                | succ k4 =>
                 have H := HA.out;clear HA
                 simp only [r22_Small.l2] at H
                 by_cases c27 : x6_4 < (((rd_T71 ((rd_T73 l0_6 x3_1).f1) x4_2).f2).length : Int)
                 ·rw [if_pos c27] at H;have c27b0 : decide (x6_4 < (((rd_T71 ((rd_T73 l0_6 x3_1).f1) x4_2).f2).length : Int)) = true := decide_eq_true c27;clear c27
                  by_cases c28 : 0 ≤ x6_4
                  ·rw [if_pos c28] at H;have c28b0 : decide (0 ≤ x6_4) = true := decide_eq_true c28;clear c28
                   by_cases c29 : (((rd_T76 ((rd_T71 ((rd_T73 l0_6 x3_1).f1) x4_2).f2) x6_4).f1).length : Int) > 10
                   ·rw [if_pos c29] at H;have c29b0 : decide (10 < (((rd_T76 ((rd_T71 ((rd_T73 l0_6 x3_1).f1) x4_2).f2) x6_4).f1).length : Int)) = true := decide_eq_true c29;have c29b1 : decide (10 < ((rd_T76 ((rd_T71 ((rd_T73 l0_6 x3_1).f1) x4_2).f2) x6_4).f1).length) = true := decide_eq_true (by omega);clear c29;obtain rfl := Option.some.inj H;have hnb30 := NB231_223.out;have hnc30 := NB223_231.out;obtain ⟨hcz31_0, hcz31_1, hcz31_2, hfz31_0, hfz31_1, hfz31_2⟩ := g3 BK231;have p232 : 0 ≤ (x6_4 : Int) := od;have q232 : x6_4 < (((rd_T71 ((rd_T73 l0_6 x3_1).f1) x4_2).f2).length : Int) := od;obtain ⟨ad232, A232_1, c232_1, e232, hx232_0, hx232_1, hl232_1, hi232_1⟩ := at_T76 HR230_2.out x6_4 p232 q232;cases e232;replace hx232_0 := hQ HB hx232_0;replace hx232_1 := hQ HB hx232_1;have HR232_1 := am hi232_1;have HC232_1 := am hl232_1;clear hi232_1 hl232_1;replace p232 := eq_true p232;replace q232 := eq_true q232
                    go_wp2
                    go_ret
                    exact ey (h := pb HB)
                   ·rw [if_neg c29] at H;have c29b0 : decide (10 < (((rd_T76 ((rd_T71 ((rd_T73 l0_6 x3_1).f1) x4_2).f2) x6_4).f1).length : Int)) = false := decide_eq_false c29;have c29b1 : decide (10 < ((rd_T76 ((rd_T71 ((rd_T73 l0_6 x3_1).f1) x4_2).f2) x6_4).f1).length) = false := decide_eq_false (by omega);clear c29;have H' := am H;clear H;have hnb32 := NB231_223.out;have hnc32 := NB223_231.out;obtain ⟨hcz33_0, hcz33_1, hcz33_2, hfz33_0, hfz33_1, hfz33_2⟩ := g3 BK231;have p232 : 0 ≤ (x6_4 : Int) := od;have q232 : x6_4 < (((rd_T71 ((rd_T73 l0_6 x3_1).f1) x4_2).f2).length : Int) := od;obtain ⟨ad232, A232_1, c232_1, e232, hx232_0, hx232_1, hl232_1, hi232_1⟩ := at_T76 HR230_2.out x6_4 p232 q232;cases e232;replace hx232_0 := hQ HB hx232_0;replace hx232_1 := hQ HB hx232_1;have HR232_1 := am hi232_1;have HC232_1 := am hl232_1;clear hi232_1 hl232_1;replace p232 := eq_true p232;replace q232 := eq_true q232
                    go_wp2
                    go_loopg [7] k4 (fun kq v7 w' => ∃ (x7_5 : Int), v7 = .int .i64 x7_5 ∧ Aside0 (r22_Small.l3 kq x3_1 x4_2 x6_4 x7_5 a0_0 a0_1 a0_2 a0_3 a0_4 a0_5 l0_6 ((rd_T71 ((rd_T73 l0_6 x3_1).f1) x4_2).f0) ((rd_T71 ((rd_T73 l0_6 x3_1).f1) x4_2).f1) ((rd_T71 ((rd_T73 l0_6 x3_1).f1) x4_2).f2) = some r) ∧ Aside0 (kq ≤ k4) ∧ Aside0 (w'.heap[gb223]? = some (.cells #[.int .u64 a0_0, .int .u64 a0_1, .int .i64 a0_2, .int .i64 a0_3, .int .i64 a0_4, .int .i64 a0_5, (.slice (some ad227) l0_6.length c0_6)] 32 (0, 0))) ∧ Aside0 (w'.heap[gb231]? = some (.cells #[.string ((rd_T71 ((rd_T73 l0_6 x3_1).f1) x4_2).f0), .int .u64 ((rd_T71 ((rd_T73 l0_6 x3_1).f1) x4_2).f1), (.slice (some ad232) ((rd_T71 ((rd_T73 l0_6 x3_1).f1) x4_2).f2).length c230_2)] 71 (0, 0))) ∧ Aside0 (Below w.heap.size w w'))
                    case atStart => exact ⟨(0), eR, H', ⟨Nat.le_refl _⟩, ⟨pk BK223.out⟩, ⟨pk BK231.out⟩, ⟨pb HB⟩⟩
                    case round =>
                     clear H';(try clear c1);(try clear c2);(try clear c2b0);(try clear c2b1);(try clear p2);(try clear q2);(try clear hx2);(try clear c3);(try clear c7);(try clear c7b0);(try clear c8);(try clear c8b0);(try clear c9);(try clear c9b0);(try clear c9b1);(try clear c10);(try clear c12);(try clear c12b0);(try clear c13);(try clear c13b0);(try clear c14);(try clear c14b0);(try clear c15);(try clear c15b0);(try clear c19);(try clear c21);(try clear c21b0);(try clear c21b1);(try clear c22);(try clear p22);(try clear q22);(try clear hx22);(try clear c23);(try clear p23);(try clear q23);(try clear hx23);(try clear c24);(try clear c26);(try clear c27);(try clear c27b0);(try clear c28);(try clear c28b0);(try clear c29);(try clear c29b0);(try clear c29b1);(try clear c30);(try clear c32);(try clear hcz10_0 hcz10_1 hcz10_2 hcz10_3 hcz10_4 hcz10_5 hcz10_6);(try clear hcz11_0 hcz11_1 hcz11_2 hcz11_3 hcz11_4 hcz11_5 hcz11_6);(try clear hcz17_0 hcz17_1 hcz17_2 hcz17_3 hcz17_4 hcz17_5 hcz17_6);(try clear hcz20_0 hcz20_1 hcz20_2);(try clear hcz23_0 hcz23_1 hcz23_2);(try clear hcz25_0 hcz25_1 hcz25_2);(try clear hcz31_0 hcz31_1 hcz31_2);(try clear hcz33_0 hcz33_1 hcz33_2);(try clear hcz4_0 hcz4_1 hcz4_2 hcz4_3 hcz4_4 hcz4_5 hcz4_6);(try clear hcz6_0 hcz6_1 hcz6_2 hcz6_3 hcz6_4 hcz6_5 hcz6_6);(try clear hfz10_0 hfz10_1 hfz10_2 hfz10_3 hfz10_4 hfz10_5 hfz10_6);(try clear hfz11_0 hfz11_1 hfz11_2 hfz11_3 hfz11_4 hfz11_5 hfz11_6);(try clear hfz17_0 hfz17_1 hfz17_2 hfz17_3 hfz17_4 hfz17_5 hfz17_6);(try clear hfz20_0 hfz20_1 hfz20_2);(try clear hfz23_0 hfz23_1 hfz23_2);(try clear hfz25_0 hfz25_1 hfz25_2);(try clear hfz31_0 hfz31_1 hfz31_2);(try clear hfz33_0 hfz33_1 hfz33_2);(try clear hfz4_0 hfz4_1 hfz4_2 hfz4_3 hfz4_4 hfz4_5 hfz4_6);(try clear hfz6_0 hfz6_1 hfz6_2 hfz6_3 hfz6_4 hfz6_5 hfz6_6);(try clear hx227_0);(try clear hx227_1);(try clear hx228_0);(try clear hx228_1);(try clear hx229_0);(try clear hx229_1);(try clear hx230_0);(try clear hx230_1);(try clear hx230_2);(try clear hx232_0);(try clear hx232_1);(try clear p2);(try clear p22);(try clear p227);(try clear p228);(try clear p229);(try clear p23);(try clear p230);(try clear p232);(try clear q2);(try clear q22);(try clear q227);(try clear q228);(try clear q229);(try clear q23);(try clear q230);(try clear q232);obtain ⟨x7_5, rfl, HA, HK5, BK223, BK231, HB⟩ := hrel
                     cases gk with
                     | zero => exact absurd HA.out (by simp [r22_Small.l3])
                     | succ k5 =>
                      have H := HA.out;clear HA
                      simp only [r22_Small.l3] at H
                      by_cases c34 : 0 ≤ x6_4
                      ·rw [if_pos c34] at H;have c34b0 : decide (0 ≤ x6_4) = true := decide_eq_true c34;clear c34
                       by_cases c35 : x6_4 < (((rd_T71 ((rd_T73 l0_6 x3_1).f1) x4_2).f2).length : Int)
                       ·rw [if_pos c35] at H;have c35b0 : decide (x6_4 < (((rd_T71 ((rd_T73 l0_6 x3_1).f1) x4_2).f2).length : Int)) = true := decide_eq_true c35;clear c35
                        by_cases c36 : x7_5 < (((rd_T76 ((rd_T71 ((rd_T73 l0_6 x3_1).f1) x4_2).f2) x6_4).f1).length : Int)
                        ·rw [if_pos c36] at H;have c36b0 : decide (x7_5 < (((rd_T76 ((rd_T71 ((rd_T73 l0_6 x3_1).f1) x4_2).f2) x6_4).f1).length : Int)) = true := decide_eq_true c36;clear c36
                         by_cases c37 : 0 ≤ x7_5
                         ·rw [if_pos c37] at H;have c37b0 : decide (0 ≤ x7_5) = true := decide_eq_true c37;clear c37
                          by_cases c38 : (((rd_T78 ((rd_T76 ((rd_T71 ((rd_T73 l0_6 x3_1).f1) x4_2).f2) x6_4).f1) x7_5).f0).size : Int) > 100
                          ·rw [if_pos c38] at H;have c38b0 : decide (100 < (((rd_T78 ((rd_T76 ((rd_T71 ((rd_T73 l0_6 x3_1).f1) x4_2).f2) x6_4).f1) x7_5).f0).size : Int)) = true := decide_eq_true c38;have c38b1 : decide (100 < ((rd_T78 ((rd_T76 ((rd_T71 ((rd_T73 l0_6 x3_1).f1) x4_2).f2) x6_4).f1) x7_5).f0).size) = true := decide_eq_true (by omega);clear c38;obtain rfl := Option.some.inj H;have hnb39 := NB231_223.out;have hnc39 := NB223_231.out;obtain ⟨hcz40_0, hcz40_1, hcz40_2, hfz40_0, hfz40_1, hfz40_2⟩ := g3 BK231;have p233 : 0 ≤ (x6_4 : Int) := od;have q233 : x6_4 < (((rd_T71 ((rd_T73 l0_6 x3_1).f1) x4_2).f2).length : Int) := od;obtain ⟨ad233, A233_1, c233_1, e233, hx233_0, hx233_1, hl233_1, hi233_1⟩ := at_T76 HR230_2.out x6_4 p233 q233;obtain rfl : ad232 = ad233 := (by injection e233);replace hx233_0 := hQ HB hx233_0;replace hx233_1 := hQ HB hx233_1;have HR233_1 := am hi233_1;have HC233_1 := am hl233_1;clear hi233_1 hl233_1;replace p233 := eq_true p233;replace q233 := eq_true q233;have p234 : 0 ≤ (x6_4 : Int) := od;have q234 : x6_4 < (((rd_T71 ((rd_T73 l0_6 x3_1).f1) x4_2).f2).length : Int) := od;obtain ⟨ad234, A234_1, c234_1, e234, hx234_0, hx234_1, hl234_1, hi234_1⟩ := at_T76 HR230_2.out x6_4 p234 q234;obtain rfl : ad232 = ad234 := (by injection e234);replace hx234_0 := hQ HB hx234_0;replace hx234_1 := hQ HB hx234_1;have HR234_1 := am hi234_1;have HC234_1 := am hl234_1;clear hi234_1 hl234_1;replace p234 := eq_true p234;replace q234 := eq_true q234;have ea_ := Option.some.inj (hx233_1.symm.trans hx234_1)
                           injection ea_ with ea_ en_ ec_
                           subst ea_;subst ec_;clear en_;have p235 : 0 ≤ (x7_5 : Int) := od;have q235 : x7_5 < (((rd_T76 ((rd_T71 ((rd_T73 l0_6 x3_1).f1) x4_2).f2) x6_4).f1).length : Int) := od;obtain ⟨ad235, e235, hx235_0, hx235_1⟩ := at_T78 HR234_1.out x7_5 p235 q235;cases e235;replace hx235_0 := hQ HB hx235_0;replace hx235_1 := hQ HB hx235_1;replace p235 := eq_true p235;replace q235 := eq_true q235
                           go_wp2
                           go_ret
                           exact ey (h := pb HB)
                          ·rw [if_neg c38] at H;have c38b0 : decide (100 < (((rd_T78 ((rd_T76 ((rd_T71 ((rd_T73 l0_6 x3_1).f1) x4_2).f2) x6_4).f1) x7_5).f0).size : Int)) = false := decide_eq_false c38;have c38b1 : decide (100 < ((rd_T78 ((rd_T76 ((rd_T71 ((rd_T73 l0_6 x3_1).f1) x4_2).f2) x6_4).f1) x7_5).f0).size) = false := decide_eq_false (by omega);clear c38;have H' := am H;clear H;have hnb41 := NB231_223.out;have hnc41 := NB223_231.out;obtain ⟨hcz42_0, hcz42_1, hcz42_2, hfz42_0, hfz42_1, hfz42_2⟩ := g3 BK231;have p233 : 0 ≤ (x6_4 : Int) := od;have q233 : x6_4 < (((rd_T71 ((rd_T73 l0_6 x3_1).f1) x4_2).f2).length : Int) := od;obtain ⟨ad233, A233_1, c233_1, e233, hx233_0, hx233_1, hl233_1, hi233_1⟩ := at_T76 HR230_2.out x6_4 p233 q233;obtain rfl : ad232 = ad233 := (by injection e233);replace hx233_0 := hQ HB hx233_0;replace hx233_1 := hQ HB hx233_1;have HR233_1 := am hi233_1;have HC233_1 := am hl233_1;clear hi233_1 hl233_1;replace p233 := eq_true p233;replace q233 := eq_true q233;have p234 : 0 ≤ (x6_4 : Int) := od;have q234 : x6_4 < (((rd_T71 ((rd_T73 l0_6 x3_1).f1) x4_2).f2).length : Int) := od;obtain ⟨ad234, A234_1, c234_1, e234, hx234_0, hx234_1, hl234_1, hi234_1⟩ := at_T76 HR230_2.out x6_4 p234 q234;obtain rfl : ad232 = ad234 := (by injection e234);replace hx234_0 := hQ HB hx234_0;replace hx234_1 := hQ HB hx234_1;have HR234_1 := am hi234_1;have HC234_1 := am hl234_1;clear hi234_1 hl234_1;replace p234 := eq_true p234;replace q234 := eq_true q234;have ea_ := Option.some.inj (hx233_1.symm.trans hx234_1)
                           injection ea_ with ea_ en_ ec_
                           subst ea_;subst ec_;clear en_;have p235 : 0 ≤ (x7_5 : Int) := od;have q235 : x7_5 < (((rd_T76 ((rd_T71 ((rd_T73 l0_6 x3_1).f1) x4_2).f2) x6_4).f1).length : Int) := od;obtain ⟨ad235, e235, hx235_0, hx235_1⟩ := at_T78 HR234_1.out x7_5 p235 q235;cases e235;replace hx235_0 := hQ HB hx235_0;replace hx235_1 := hQ HB hx235_1;replace p235 := eq_true p235;replace q235 := eq_true q235
                           go_wp2
                           go_roundg k5
                           case measure => have := HK1.out; have := HK2.out; have := HJ15.out; have := HK4.out; have := HK5.out; omega
                           case rel => exact ⟨(wrap64 (x7_5 + 1)), eR, H', ⟨by have := HK1.out; have := HK2.out; have := HJ15.out; have := HK4.out; have := HK5.out; omega⟩, ⟨pk BK223.out⟩, ⟨pk BK231.out⟩, ⟨pb HB⟩⟩
                         ·rw [if_neg c37] at H;exact absurd H (by simp)
                        ·rw [if_neg c36] at H;have c36b0 : decide (x7_5 < (((rd_T76 ((rd_T71 ((rd_T73 l0_6 x3_1).f1) x4_2).f2) x6_4).f1).length : Int)) = false := decide_eq_false c36;clear c36;have H' := am H;clear H;have hnb43 := NB231_223.out;have hnc43 := NB223_231.out;obtain ⟨hcz44_0, hcz44_1, hcz44_2, hfz44_0, hfz44_1, hfz44_2⟩ := g3 BK231;have p233 : 0 ≤ (x6_4 : Int) := od;have q233 : x6_4 < (((rd_T71 ((rd_T73 l0_6 x3_1).f1) x4_2).f2).length : Int) := od;obtain ⟨ad233, A233_1, c233_1, e233, hx233_0, hx233_1, hl233_1, hi233_1⟩ := at_T76 HR230_2.out x6_4 p233 q233;obtain rfl : ad232 = ad233 := (by injection e233);replace hx233_0 := hQ HB hx233_0;replace hx233_1 := hQ HB hx233_1;have HR233_1 := am hi233_1;have HC233_1 := am hl233_1;clear hi233_1 hl233_1;replace p233 := eq_true p233;replace q233 := eq_true q233
                         go_wp2
                         go_roundg k5
                         case measure => have := HK1.out; have := HK2.out; have := HJ15.out; have := HK4.out; have := HK5.out; omega
                         case rel => exact ⟨(wrap64 (x6_4 + 1)), eR, H', ⟨by have := HK1.out; have := HK2.out; have := HJ15.out; have := HK4.out; have := HK5.out; omega⟩, ⟨pk BK223.out⟩, ⟨pk BK231.out⟩, ⟨pb HB⟩⟩
                       ·rw [if_neg c35] at H;exact absurd H (by simp)
                      ·rw [if_neg c34] at H;exact absurd H (by simp)
                  ·rw [if_neg c28] at H;exact absurd H (by simp)
                 ·rw [if_neg c27] at H;have c27b0 : decide (x6_4 < (((rd_T71 ((rd_T73 l0_6 x3_1).f1) x4_2).f2).length : Int)) = false := decide_eq_false c27;clear c27;have H' := am H;clear H;have hnb45 := NB231_223.out;have hnc45 := NB223_231.out;obtain ⟨hcz46_0, hcz46_1, hcz46_2, hfz46_0, hfz46_1, hfz46_2⟩ := g3 BK231
                  go_wp2
                  go_roundg k4
                  case measure => have := HK1.out; have := HK2.out; have := HJ15.out; have := HK4.out; omega
                  case rel => exact ⟨(wrap64 (x4_2 + 1)), eR, H', ⟨by have := HK1.out; have := HK2.out; have := HJ15.out; have := HK4.out; omega⟩, ⟨pk BK223.out⟩, ⟨pb HB⟩⟩
           ·rw [if_neg c15] at H;exact absurd H (by simp)
          ·rw [if_neg c14] at H;have c14b0 : decide (x4_2 < (((rd_T73 l0_6 x3_1).f1).length : Int)) = false := decide_eq_false c14;clear c14;have H' := am H;clear H;obtain ⟨hcz47_0, hcz47_1, hcz47_2, hcz47_3, hcz47_4, hcz47_5, hcz47_6, hfz47_0, hfz47_1, hfz47_2, hfz47_3, hfz47_4, hfz47_5, hfz47_6⟩ := g7 BK223;have p228 : 0 ≤ (x3_1 : Int) := od;have q228 : x3_1 < (l0_6.length : Int) := od;obtain ⟨ad228, A228_1, c228_1, e228, hx228_0, hx228_1, hl228_1, hi228_1⟩ := at_T73 HR0_6.out x3_1 p228 q228;obtain rfl : ad227 = ad228 := (by injection e228);replace hx228_0 := hQ HB hx228_0;replace hx228_1 := hQ HB hx228_1;have HR228_1 := am hi228_1;have HC228_1 := am hl228_1;clear hi228_1 hl228_1;replace p228 := eq_true p228;replace q228 := eq_true q228
           go_wp2
           go_roundg k2
           case measure => have := HK1.out; have := HK2.out; omega
           case rel => exact ⟨(wrap64 (x3_1 + 1)), eR, H', ⟨by have := HK1.out; have := HK2.out; omega⟩, ⟨pk BK223.out⟩, ⟨pb HB⟩⟩
         ·rw [if_neg c13] at H;exact absurd H (by simp)
        ·rw [if_neg c12] at H;exact absurd H (by simp)
    ·rw [if_neg c8] at H;exact absurd H (by simp)
   ·rw [if_neg c7] at H;have c7b0 : decide (x3_1 < (l0_6.length : Int)) = false := decide_eq_false c7;clear c7;replace H := Option.bind_eq_some_iff.mp H;obtain ⟨t224, A480, H⟩ := H
    try dsimp only at H
    have A48 := am A480;clear A480;obtain rfl := Option.some.inj H;obtain ⟨hcz49_0, hcz49_1, hcz49_2, hcz49_3, hcz49_4, hcz49_5, hcz49_6, hfz49_0, hfz49_1, hfz49_2, hfz49_3, hfz49_4, hfz49_5, hfz49_6⟩ := g7 BK223
    go_wp2_with (first | ((with_reducible refine gate_callee (f := 19) rfl ?_); refine gl (some 96) Try.func19 #[.agg #[.int .u64 a0_0, .int .u64 a0_1, .int .i64 a0_2, .int .i64 a0_3, .int .i64 a0_4, .int .i64 a0_5, .slice A0_6 l0_6.length c0_6]] ?_; (with_reducible refine (r22_List.calls k1 a0_0 a0_1 a0_2 a0_3 a0_4 a0_5 _ _ l0_6 t224 _ ?side1 ?side2 A48.out).mono ?_); (case side1 => exact pc (Kd.C_below HR0_6.out HB.out)); (case side2 => exact HC0_6.out); rintro e w50 ⟨v225, rfl, ho0, hb⟩; refine ⟨_, rfl, ?_⟩; have HO226 := am (Kd.R_lower ho0 (below_size (pb HB))); replace BK223 := kb BK223 hb; replace HB := lb HB hb; (try clear hb); (try clear hb2); (try clear hk); (try clear hi); (try clear ho0); obtain ⟨Ao51, co51, eo51⟩ := Kd.R_slice HO226.out; subst eo51))
    go_ret
    exact ey (h := pb HB)
end Go.Proofs.Ytagcobdpojeiiaa.H
