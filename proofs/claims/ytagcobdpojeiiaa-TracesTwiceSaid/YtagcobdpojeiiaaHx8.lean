import Derived.Test.YtagcobdpojeiiaaHx0
namespace Go.Proofs.Ytagcobdpojeiiaa.H
open Go.RowKit Go.Proofs.YtagcobdpojeiiaaW.PrintWords Go.Proofs.YtagcobdpojeiiaaW.PrintLast Go.Proofs.YtagcobdpojeiiaaW.PrintMore Go.Proofs.YtagcobdpojeiiaaW.Sq
attribute [local go_sem] max2_int min2_int max_two min_two max_three min_three max_four min_four
set_option linter.unusedVariables false
set_option linter.unusedSimpArgs false

mutual
def r22_List.l0 : Nat → List (S46) → Int → Int → Int → Int → Int → Int → Int → List (S73) → Option ((List (S46)))
 | 0, _, _, _, _, _, _, _, _, _ => none
 | k + 1, x3, x4, x213000, x213001, x213002, x213003, x213004, x213005, x213006 => if x4 < (x213006.length : Int) then (if 0 ≤ x4 then (r22_List.l1 k x3 x4 0 x213000 x213001 x213002 x213003 x213004 x213005 x213006 ((rd_T73 x213006 x4).f0) ((rd_T73 x213006 x4).f1)) else (none)) else (some x3)
def r22_List.l1 : Nat → List (S46) → Int → Int → Int → Int → Int → Int → Int → Int → List (S73) → Int → List (S71) → Option ((List (S46)))
 | 0, _, _, _, _, _, _, _, _, _, _, _, _ => none
 | k + 1, x3, x4, x6, x213000, x213001, x213002, x213003, x213004, x213005, x213006, x215000, x215001 => if x6 < (x215001.length : Int) then (if 0 ≤ x6 then (r22_List.l2 k x3 x4 x6 0 x213000 x213001 x213002 x213003 x213004 x213005 x213006 x215000 x215001 ((rd_T71 x215001 x6).f0) ((rd_T71 x215001 x6).f1) ((rd_T71 x215001 x6).f2)) else (none)) else (r22_List.l0 k x3 (wrap64 (x4 + 1)) x213000 x213001 x213002 x213003 x213004 x213005 x213006)
def r22_List.l2 : Nat → List (S46) → Int → Int → Int → Int → Int → Int → Int → Int → Int → List (S73) → Int → List (S71) → ByteArray → Int → List (S76) → Option ((List (S46)))
 | 0, _, _, _, _, _, _, _, _, _, _, _, _, _, _, _, _ => none
 | k + 1, x3, x4, x6, x8, x213000, x213001, x213002, x213003, x213004, x213005, x213006, x215000, x215001, x217000, x217001, x217002 => if x8 < (x217002.length : Int) then (if 0 ≤ x8 then (r22_List.l3 k x3 x4 x6 x8 0 x213000 x213001 x213002 x213003 x213004 x213005 x213006 x215000 x215001 x217000 x217001 x217002 ((rd_T76 x217002 x8).f0) ((rd_T76 x217002 x8).f1)) else (none)) else (r22_List.l1 k x3 x4 (wrap64 (x6 + 1)) x213000 x213001 x213002 x213003 x213004 x213005 x213006 x215000 x215001)
def r22_List.l3 : Nat → List (S46) → Int → Int → Int → Int → Int → Int → Int → Int → Int → Int → List (S73) → Int → List (S71) → ByteArray → Int → List (S76) → Int → List (S78) → Option ((List (S46)))
 | 0, _, _, _, _, _, _, _, _, _, _, _, _, _, _, _, _, _, _, _ => none
 | k + 1, x3, x4, x6, x8, x10, x213000, x213001, x213002, x213003, x213004, x213005, x213006, x215000, x215001, x217000, x217001, x217002, x219000, x219001 => if x10 < (x219001.length : Int) then (if 0 ≤ x10 then (if x3.length < 2932031007402 then (r22_List.l3 k (x3 ++ [(⟨x215000, x217000, x219000, (rd_T78 x219001 x10).f0⟩ : S46)]) x4 x6 x8 (wrap64 (x10 + 1)) x213000 x213001 x213002 x213003 x213004 x213005 x213006 x215000 x215001 x217000 x217001 x217002 x219000 x219001) else (none)) else (none)) else (r22_List.l2 k x3 x4 x6 (wrap64 (x8 + 1)) x213000 x213001 x213002 x213003 x213004 x213005 x213006 x215000 x215001 x217000 x217001 x217002)
end
def r22_List.f (k : Nat) (a0_0 : Int) (a0_1 : Int) (a0_2 : Int) (a0_3 : Int) (a0_4 : Int) (a0_5 : Int) (l0_6 : List (S73)) : Option ((List (S46))) := r22_List.l0 k ([] : List (S46)) 0 a0_0 a0_1 a0_2 a0_3 a0_4 a0_5 l0_6
theorem r22_List.mono_l : ∀ k, (∀ y0 y1 y2 y3 y4 y5 y6 y7 y8, LeO (r22_List.l0 k y0 y1 y2 y3 y4 y5 y6 y7 y8) (r22_List.l0 (k + 1) y0 y1 y2 y3 y4 y5 y6 y7 y8)) ∧ (∀ y0 y1 y2 y3 y4 y5 y6 y7 y8 y9 y10 y11, LeO (r22_List.l1 k y0 y1 y2 y3 y4 y5 y6 y7 y8 y9 y10 y11) (r22_List.l1 (k + 1) y0 y1 y2 y3 y4 y5 y6 y7 y8 y9 y10 y11)) ∧ (∀ y0 y1 y2 y3 y4 y5 y6 y7 y8 y9 y10 y11 y12 y13 y14 y15, LeO (r22_List.l2 k y0 y1 y2 y3 y4 y5 y6 y7 y8 y9 y10 y11 y12 y13 y14 y15) (r22_List.l2 (k + 1) y0 y1 y2 y3 y4 y5 y6 y7 y8 y9 y10 y11 y12 y13 y14 y15)) ∧ (∀ y0 y1 y2 y3 y4 y5 y6 y7 y8 y9 y10 y11 y12 y13 y14 y15 y16 y17 y18, LeO (r22_List.l3 k y0 y1 y2 y3 y4 y5 y6 y7 y8 y9 y10 y11 y12 y13 y14 y15 y16 y17 y18) (r22_List.l3 (k + 1) y0 y1 y2 y3 y4 y5 y6 y7 y8 y9 y10 y11 y12 y13 y14 y15 y16 y17 y18))
 | 0 => ⟨fun _ _ _ _ _ _ _ _ _ r h => by simp [r22_List.l0] at h, fun _ _ _ _ _ _ _ _ _ _ _ _ r h => by simp [r22_List.l1] at h, fun _ _ _ _ _ _ _ _ _ _ _ _ _ _ _ _ r h => by simp [r22_List.l2] at h, fun _ _ _ _ _ _ _ _ _ _ _ _ _ _ _ _ _ _ _ r h => by simp [r22_List.l3] at h⟩
 | k + 1 => by
  obtain ⟨ih0, ih1, ih2, ih3⟩ := r22_List.mono_l k
  refine ⟨?_, ?_, ?_, ?_⟩
  ·intro y0 y1 y2 y3 y4 y5 y6 y7 y8
   unfold r22_List.l0
   repeat' first
   | (with_reducible exact ih0 _ _ _ _ _ _ _ _ _)
   | (with_reducible exact ih1 _ _ _ _ _ _ _ _ _ _ _ _)
   | (with_reducible exact ih2 _ _ _ _ _ _ _ _ _ _ _ _ _ _ _ _)
   | (with_reducible exact ih3 _ _ _ _ _ _ _ _ _ _ _ _ _ _ _ _ _ _ _)
   | (with_reducible exact LeO.refl _)
   | (with_reducible exact LeO.none _)
   | (with_reducible refine LeO.ite ?_ ?_)
   | (with_reducible refine LeO.bind ?_ (fun _ => ?_))
  ·intro y0 y1 y2 y3 y4 y5 y6 y7 y8 y9 y10 y11
   unfold r22_List.l1
   repeat' first
   | (with_reducible exact ih0 _ _ _ _ _ _ _ _ _)
   | (with_reducible exact ih1 _ _ _ _ _ _ _ _ _ _ _ _)
   | (with_reducible exact ih2 _ _ _ _ _ _ _ _ _ _ _ _ _ _ _ _)
   | (with_reducible exact ih3 _ _ _ _ _ _ _ _ _ _ _ _ _ _ _ _ _ _ _)
   | (with_reducible exact LeO.refl _)
   | (with_reducible exact LeO.none _)
   | (with_reducible refine LeO.ite ?_ ?_)
   | (with_reducible refine LeO.bind ?_ (fun _ => ?_))
  ·intro y0 y1 y2 y3 y4 y5 y6 y7 y8 y9 y10 y11 y12 y13 y14 y15
   unfold r22_List.l2
   repeat' first
   | (with_reducible exact ih0 _ _ _ _ _ _ _ _ _)
   | (with_reducible exact ih1 _ _ _ _ _ _ _ _ _ _ _ _)
   | (with_reducible exact ih2 _ _ _ _ _ _ _ _ _ _ _ _ _ _ _ _)
   | (with_reducible exact ih3 _ _ _ _ _ _ _ _ _ _ _ _ _ _ _ _ _ _ _)
   | (with_reducible exact LeO.refl _)
   | (with_reducible exact LeO.none _)
   | (with_reducible refine LeO.ite ?_ ?_)
   | (with_reducible refine LeO.bind ?_ (fun _ => ?_))
  ·intro y0 y1 y2 y3 y4 y5 y6 y7 y8 y9 y10 y11 y12 y13 y14 y15 y16 y17 y18
   unfold r22_List.l3
   repeat' first
   | (with_reducible exact ih0 _ _ _ _ _ _ _ _ _)
   | (with_reducible exact ih1 _ _ _ _ _ _ _ _ _ _ _ _)
   | (with_reducible exact ih2 _ _ _ _ _ _ _ _ _ _ _ _ _ _ _ _)
   | (with_reducible exact ih3 _ _ _ _ _ _ _ _ _ _ _ _ _ _ _ _ _ _ _)
   | (with_reducible exact LeO.refl _)
   | (with_reducible exact LeO.none _)
   | (with_reducible refine LeO.ite ?_ ?_)
   | (with_reducible refine LeO.bind ?_ (fun _ => ?_))
theorem r22_List.mono : ∀ a0 a1 a2 a3 a4 a5 a6 k, LeO (r22_List.f k a0 a1 a2 a3 a4 a5 a6) (r22_List.f (k + 1) a0 a1 a2 a3 a4 a5 a6) := by
 intro a0 a1 a2 a3 a4 a5 a6 k
 obtain ⟨ih0, ih1, ih2, ih3⟩ := r22_List.mono_l k
 unfold r22_List.f
 repeat' first
   | (with_reducible exact ih0 _ _ _ _ _ _ _ _ _)
   | (with_reducible exact ih1 _ _ _ _ _ _ _ _ _ _ _ _)
   | (with_reducible exact ih2 _ _ _ _ _ _ _ _ _ _ _ _ _ _ _ _)
   | (with_reducible exact ih3 _ _ _ _ _ _ _ _ _ _ _ _ _ _ _ _ _ _ _)
   | (with_reducible exact LeO.refl _)
   | (with_reducible exact LeO.none _)
   | (with_reducible refine LeO.ite ?_ ?_)
   | (with_reducible refine LeO.bind ?_ (fun _ => ?_))
def r22_List.T17 : Bool × List (List Nat × List Nat) := (true, [([], []), ([], []), ([1], [1]), ([], []), ([3], [3]), ([], []), ([5], [5]), ([], []), ([7], [7]), ([], []), ([8, 9], [8, 9]), ([10], [10]), ([11], [11]), ([2, 4, 6, 12], [2, 4, 6, 12]), ([13], [13]), ([0, 14], [0, 14]), ([15, 15, 0, 1, 2, 3, 4, 5, 6, 7, 8, 9, 10, 11, 12, 13, 14, 15], [0, 15])])
def r22_List.B17 : List Nat := [0, 0, 2, 0, 8, 0, 32, 0, 128, 0, 896, 1920, 3968, 8190, 16382, 32767, 65535]
theorem r22_List.tab17 : rtab .any (opsOf Try.f19 17) = r22_List.T17 := by kernel_rfl
theorem r22_List.bits17 : waitsOk r22_List.T17.2 r22_List.B17 = true := by kernel_rfl
set_option maxHeartbeats 8000000 in
set_option maxRecDepth 100000 in
theorem r22_List.calls (k : Nat) (a0_0 : Int) (a0_1 : Int) (a0_2 : Int) (a0_3 : Int) (a0_4 : Int) (a0_5 : Int) (A0_6 : Option Addr) (c0_6 : Nat) (l0_6 : List (S73)) (r : List (S46)) (w : World) (hr0_6 : Kd.C k73 w A0_6 l0_6.length l0_6) (hc0_6 : l0_6.length ≤ c0_6) (h : r22_List.f k a0_0 a0_1 a0_2 a0_3 a0_4 a0_5 l0_6 = some r) :
  Calls Try.prog 19 #[.agg #[.int .u64 a0_0, .int .u64 a0_1, .int .i64 a0_2, .int .i64 a0_3, .int .i64 a0_4, .int .i64 a0_5, .slice A0_6 l0_6.length c0_6]] w fun e w' => ∃ v0_ : Value, e = .returned (v0_) ∧ Kd.R k46 46 w' w.heap.size (fun _ => True) v0_ r ∧ Below w.heap.size w w' := by
 have hu32 := Try.underlying32;have hu73 := Try.underlying73;have hu71 := Try.underlying71;have hu76 := Try.underlying76;have hu46 := Try.underlying46;have HR0_6 := am hr0_6;have HC0_6 := am hc0_6;clear hr0_6 hc0_6;have HB := am (Below.refl w.heap.size w);have H : (r22_List.l0 k ([] : List (S46)) 0 a0_0 a0_1 a0_2 a0_3 a0_4 a0_5 l0_6) = some r := h;clear h;have H' := am H;clear H
 go_enter Try.func19, Try.ntmps19
 go_wp2_with (first | ((with_reducible refine gate_dst (N := 1) rfl ?_); refine be 1 #[.int .u64 a0_0, .int .u64 a0_1, .int .i64 a0_2, .int .i64 a0_3, .int .i64 a0_4, .int .i64 a0_5, .slice A0_6 l0_6.length c0_6] 32 ?_; intro gb212 hg w2 hbox hb; have BK212 := am (hbox); have GW212 := gq hg HB; have GE212 := gq hg HB; replace HB := lb HB hb; clear hb hbox hg))
 go_loopg [3, 4] k (fun kq v3 v4 w' => ∃ (x3_1 : List (S46)) (x4_1 : Int), v4 = .int .i64 x4_1 ∧ Aside0 (r22_List.l0 kq x3_1 x4_1 a0_0 a0_1 a0_2 a0_3 a0_4 a0_5 l0_6 = some r) ∧ Aside0 (kq ≤ k) ∧ Aside0 (Kd.R k46 46 w' w.heap.size (fun _ => True) v3 x3_1) ∧ Aside0 (w'.heap[gb212]? = some (.cells #[.int .u64 a0_0, .int .u64 a0_1, .int .i64 a0_2, .int .i64 a0_3, .int .i64 a0_4, .int .i64 a0_5, (.slice A0_6 l0_6.length c0_6)] 32 (0, 0))) ∧ Aside0 (Below w.heap.size w w'))
 case atStart => exact ⟨(([] : List (S46))), (0), eR, H', ⟨Nat.le_refl _⟩, ⟨by first | exact Kd.R_nil _ _ _ _ _ | exact Kd.N_nil _ _ _ _ _ | exact Kd.V_nil _ _ _ _ _ | exact Kd.Q_nil _ _ _ _ _ | exact Kd.S_nil _ _ _ _ _⟩, ⟨pk BK212.out⟩, ⟨pb HB⟩⟩
 case round =>
  clear H';(try clear c1);(try clear p2);obtain ⟨x3_1, x4_1, rfl, HA, HK1, HO_3, BK212, HB⟩ := hrel
  cases gk with
  | zero => exact absurd HA.out (by simp [r22_List.l0])
  | succ k1 =>
   have H := HA.out;clear HA
   simp only [r22_List.l0] at H
   by_cases c3 : x4_1 < (l0_6.length : Int)
   ·rw [if_pos c3] at H;have c3b0 : decide (x4_1 < (l0_6.length : Int)) = true := decide_eq_true c3;clear c3
    by_cases c4 : 0 ≤ x4_1
    ·rw [if_pos c4] at H;have c4b0 : decide (0 ≤ x4_1) = true := decide_eq_true c4;clear c4;have H' := am H;clear H;obtain ⟨hcz5_0, hcz5_1, hcz5_2, hcz5_3, hcz5_4, hcz5_5, hcz5_6, hfz5_0, hfz5_1, hfz5_2, hfz5_3, hfz5_4, hfz5_5, hfz5_6⟩ := g7 BK212;have p213 : 0 ≤ (x4_1 : Int) := od;have q213 : x4_1 < (l0_6.length : Int) := od;obtain ⟨ad213, A213_1, c213_1, e213, hx213_0, hx213_1, hl213_1, hi213_1⟩ := at_T73 HR0_6.out x4_1 p213 q213;cases e213;replace hx213_0 := hQ HB hx213_0;replace hx213_1 := hQ HB hx213_1;have HR213_1 := am hi213_1;have HC213_1 := am hl213_1;clear hi213_1 hl213_1;replace p213 := eq_true p213;replace q213 := eq_true q213
     go_wp2_with (first | ((with_reducible refine gate_dst (N := 5) rfl ?_); refine be 5 #[.int .i64 0, .slice none 0 0] 73 ?_; intro gb214 hg w6 hbox hb; replace HO_3 := rb HO_3 hb; have BK214 := am (hbox); have GW214 := gq hg HB; have GE214 := gq hg HB; replace HB := lb HB hb; obtain ⟨NB212_214, NB214_212, hnc7, hnb7⟩ := pm hg BK212; replace BK212 := kb BK212 hb; clear hb hbox hg; obtain ⟨hcz8_0, hcz8_1, hfz8_0, hfz8_1⟩ := g2 BK214))
     go_loopg [3, 6] k1 (fun kq v3 v6 w' => ∃ (x3_2 : List (S46)) (x6_2 : Int), v6 = .int .i64 x6_2 ∧ Aside0 (r22_List.l1 kq x3_2 x4_1 x6_2 a0_0 a0_1 a0_2 a0_3 a0_4 a0_5 l0_6 ((rd_T73 l0_6 x4_1).f0) ((rd_T73 l0_6 x4_1).f1) = some r) ∧ Aside0 (kq ≤ k1) ∧ Aside0 (Kd.R k46 46 w' w.heap.size (fun _ => True) v3 x3_2) ∧ Aside0 (w'.heap[gb212]? = some (.cells #[.int .u64 a0_0, .int .u64 a0_1, .int .i64 a0_2, .int .i64 a0_3, .int .i64 a0_4, .int .i64 a0_5, (.slice (some ad213) l0_6.length c0_6)] 32 (0, 0))) ∧ Aside0 (w'.heap[gb214]? = some (.cells #[.int .i64 ((rd_T73 l0_6 x4_1).f0), (.slice A213_1 ((rd_T73 l0_6 x4_1).f1).length c213_1)] 73 (0, 0))) ∧ Aside0 (Below w.heap.size w w'))
     case atStart => exact ⟨(x3_1), (0), eR, H', ⟨Nat.le_refl _⟩, ⟨(rf (f2 rfl) HO_3 BK214).out⟩, ⟨(bf (f2 rfl) BK212 NB212_214.out).out⟩, ⟨(s2 rfl BK214).out⟩, ⟨pb HB⟩⟩
     case round =>
      clear H';(try clear c1);(try clear c2);(try clear p2);(try clear q2);(try clear hx2);(try clear c3);(try clear c3b0);(try clear c4);(try clear c4b0);(try clear c7);(try clear hcz5_0 hcz5_1 hcz5_2 hcz5_3 hcz5_4 hcz5_5 hcz5_6);(try clear hcz8_0 hcz8_1);(try clear hfz5_0 hfz5_1 hfz5_2 hfz5_3 hfz5_4 hfz5_5 hfz5_6);(try clear hfz8_0 hfz8_1);(try clear hx213_0);(try clear hx213_1);(try clear p2);(try clear p213);(try clear q213);obtain ⟨x3_2, x6_2, rfl, HA, HK2, HO_3, BK212, BK214, HB⟩ := hrel
      cases gk with
      | zero => exact absurd HA.out (by simp [r22_List.l1])
      | succ k2 =>
       have H := HA.out;clear HA
       simp only [r22_List.l1] at H
       by_cases c9 : x6_2 < (((rd_T73 l0_6 x4_1).f1).length : Int)
       ·rw [if_pos c9] at H;have c9b0 : decide (x6_2 < (((rd_T73 l0_6 x4_1).f1).length : Int)) = true := decide_eq_true c9;clear c9
        by_cases c10 : 0 ≤ x6_2
        ·rw [if_pos c10] at H;have c10b0 : decide (0 ≤ x6_2) = true := decide_eq_true c10;clear c10;have H' := am H;clear H;have hnb11 := NB214_212.out;have hnc11 := NB212_214.out;obtain ⟨hcz12_0, hcz12_1, hfz12_0, hfz12_1⟩ := g2 BK214;have p215 : 0 ≤ (x6_2 : Int) := od;have q215 : x6_2 < (((rd_T73 l0_6 x4_1).f1).length : Int) := od;obtain ⟨ad215, A215_2, c215_2, e215, hx215_0, hx215_1, hx215_2, hl215_2, hi215_2⟩ := at_T71 HR213_1.out x6_2 p215 q215;cases e215;replace hx215_0 := hQ HB hx215_0;replace hx215_1 := hQ HB hx215_1;replace hx215_2 := hQ HB hx215_2;have HR215_2 := am hi215_2;have HC215_2 := am hl215_2;clear hi215_2 hl215_2;replace p215 := eq_true p215;replace q215 := eq_true q215
         go_wp2_with (first | ((with_reducible refine gate_dst (N := 7) rfl ?_); refine be 7 #[.string (⟨#[]⟩ : ByteArray), .int .u64 0, .slice none 0 0] 71 ?_; intro gb216 hg w13 hbox hb; replace HO_3 := rb HO_3 hb; have BK216 := am (hbox); have GW216 := gq hg HB; have GE216 := gq hg HB; replace HB := lb HB hb; obtain ⟨NB212_216, NB216_212, hnc14, hnb14⟩ := pm hg BK212; replace BK212 := kb BK212 hb; obtain ⟨NB214_216, NB216_214, hnc15, hnb15⟩ := pm hg BK214; replace BK214 := kb BK214 hb; clear hb hbox hg; obtain ⟨hcz16_0, hcz16_1, hcz16_2, hfz16_0, hfz16_1, hfz16_2⟩ := g3 BK216))
         go_loopg [3, 8] k2 (fun kq v3 v8 w' => ∃ (x3_3 : List (S46)) (x8_3 : Int), v8 = .int .i64 x8_3 ∧ Aside0 (r22_List.l2 kq x3_3 x4_1 x6_2 x8_3 a0_0 a0_1 a0_2 a0_3 a0_4 a0_5 l0_6 ((rd_T73 l0_6 x4_1).f0) ((rd_T73 l0_6 x4_1).f1) ((rd_T71 ((rd_T73 l0_6 x4_1).f1) x6_2).f0) ((rd_T71 ((rd_T73 l0_6 x4_1).f1) x6_2).f1) ((rd_T71 ((rd_T73 l0_6 x4_1).f1) x6_2).f2) = some r) ∧ Aside0 (kq ≤ k2) ∧ Aside0 (Kd.R k46 46 w' w.heap.size (fun _ => True) v3 x3_3) ∧ Aside0 (w'.heap[gb212]? = some (.cells #[.int .u64 a0_0, .int .u64 a0_1, .int .i64 a0_2, .int .i64 a0_3, .int .i64 a0_4, .int .i64 a0_5, (.slice (some ad213) l0_6.length c0_6)] 32 (0, 0))) ∧ Aside0 (w'.heap[gb214]? = some (.cells #[.int .i64 ((rd_T73 l0_6 x4_1).f0), (.slice (some ad215) ((rd_T73 l0_6 x4_1).f1).length c213_1)] 73 (0, 0))) ∧ Aside0 (w'.heap[gb216]? = some (.cells #[.string ((rd_T71 ((rd_T73 l0_6 x4_1).f1) x6_2).f0), .int .u64 ((rd_T71 ((rd_T73 l0_6 x4_1).f1) x6_2).f1), (.slice A215_2 ((rd_T71 ((rd_T73 l0_6 x4_1).f1) x6_2).f2).length c215_2)] 71 (0, 0))) ∧ Aside0 (Below w.heap.size w w'))
         case atStart => exact ⟨(x3_2), (0), eR, H', ⟨Nat.le_refl _⟩, ⟨(rf (f3 rfl) HO_3 BK216).out⟩, ⟨(bf (f3 rfl) BK212 NB212_216.out).out⟩, ⟨(bf (f3 rfl) BK214 NB214_216.out).out⟩, ⟨(s3 rfl BK216).out⟩, ⟨pb HB⟩⟩
         case round =>
          clear H';(try clear c1);(try clear c2);(try clear p2);(try clear q2);(try clear hx2);(try clear c3);(try clear c3b0);(try clear c4);(try clear c4b0);(try clear c7);(try clear c9);(try clear c9b0);(try clear c10);(try clear c10b0);(try clear c11);(try clear c14);(try clear c15);(try clear hcz12_0 hcz12_1);(try clear hcz16_0 hcz16_1 hcz16_2);(try clear hcz5_0 hcz5_1 hcz5_2 hcz5_3 hcz5_4 hcz5_5 hcz5_6);(try clear hcz8_0 hcz8_1);(try clear hfz12_0 hfz12_1);(try clear hfz16_0 hfz16_1 hfz16_2);(try clear hfz5_0 hfz5_1 hfz5_2 hfz5_3 hfz5_4 hfz5_5 hfz5_6);(try clear hfz8_0 hfz8_1);(try clear hx213_0);(try clear hx213_1);(try clear hx215_0);(try clear hx215_1);(try clear hx215_2);(try clear p2);(try clear p213);(try clear p215);(try clear q2);(try clear q213);(try clear q215);obtain ⟨x3_3, x8_3, rfl, HA, HK3, HO_3, BK212, BK214, BK216, HB⟩ := hrel
          cases gk with
          | zero => exact absurd HA.out (by simp [r22_List.l2])
          | succ k3 =>
           have H := HA.out;clear HA
           simp only [r22_List.l2] at H
           by_cases c17 : x8_3 < (((rd_T71 ((rd_T73 l0_6 x4_1).f1) x6_2).f2).length : Int)
           ·rw [if_pos c17] at H;have c17b0 : decide (x8_3 < (((rd_T71 ((rd_T73 l0_6 x4_1).f1) x6_2).f2).length : Int)) = true := decide_eq_true c17;clear c17
            by_cases c18 : 0 ≤ x8_3
            ·rw [if_pos c18] at H;have c18b0 : decide (0 ≤ x8_3) = true := decide_eq_true c18;clear c18;have H' := am H;clear H;have hnb19 := NB216_212.out;have hnc19 := NB212_216.out;have hnb20 := NB216_214.out;have hnc20 := NB214_216.out;obtain ⟨hcz21_0, hcz21_1, hcz21_2, hfz21_0, hfz21_1, hfz21_2⟩ := g3 BK216;have p217 : 0 ≤ (x8_3 : Int) := od;have q217 : x8_3 < (((rd_T71 ((rd_T73 l0_6 x4_1).f1) x6_2).f2).length : Int) := od;obtain ⟨ad217, A217_1, c217_1, e217, hx217_0, hx217_1, hl217_1, hi217_1⟩ := at_T76 HR215_2.out x8_3 p217 q217;cases e217;replace hx217_0 := hQ HB hx217_0;replace hx217_1 := hQ HB hx217_1;have HR217_1 := am hi217_1;have HC217_1 := am hl217_1;clear hi217_1 hl217_1;replace p217 := eq_true p217;replace q217 := eq_true q217
             go_wp2_with (first | ((with_reducible refine gate_dst (N := 9) rfl ?_); refine be 9 #[.int .i64 0, .slice none 0 0] 76 ?_; intro gb218 hg w22 hbox hb; replace HO_3 := rb HO_3 hb; have BK218 := am (hbox); have GW218 := gq hg HB; have GE218 := gq hg HB; replace HB := lb HB hb; obtain ⟨NB212_218, NB218_212, hnc23, hnb23⟩ := pm hg BK212; replace BK212 := kb BK212 hb; obtain ⟨NB214_218, NB218_214, hnc24, hnb24⟩ := pm hg BK214; replace BK214 := kb BK214 hb; obtain ⟨NB216_218, NB218_216, hnc25, hnb25⟩ := pm hg BK216; replace BK216 := kb BK216 hb; clear hb hbox hg; obtain ⟨hcz26_0, hcz26_1, hfz26_0, hfz26_1⟩ := g2 BK218))
             go_loopg [3, 10] k3 (fun kq v3 v10 w' => ∃ (x3_4 : List (S46)) (x10_4 : Int), v10 = .int .i64 x10_4 ∧ Aside0 (r22_List.l3 kq x3_4 x4_1 x6_2 x8_3 x10_4 a0_0 a0_1 a0_2 a0_3 a0_4 a0_5 l0_6 ((rd_T73 l0_6 x4_1).f0) ((rd_T73 l0_6 x4_1).f1) ((rd_T71 ((rd_T73 l0_6 x4_1).f1) x6_2).f0) ((rd_T71 ((rd_T73 l0_6 x4_1).f1) x6_2).f1) ((rd_T71 ((rd_T73 l0_6 x4_1).f1) x6_2).f2) ((rd_T76 ((rd_T71 ((rd_T73 l0_6 x4_1).f1) x6_2).f2) x8_3).f0) ((rd_T76 ((rd_T71 ((rd_T73 l0_6 x4_1).f1) x6_2).f2) x8_3).f1) = some r) ∧ Aside0 (kq ≤ k3) ∧ Aside0 (Kd.R k46 46 w' w.heap.size (fun _ => True) v3 x3_4) ∧ Aside0 (w'.heap[gb212]? = some (.cells #[.int .u64 a0_0, .int .u64 a0_1, .int .i64 a0_2, .int .i64 a0_3, .int .i64 a0_4, .int .i64 a0_5, (.slice (some ad213) l0_6.length c0_6)] 32 (0, 0))) ∧ Aside0 (w'.heap[gb214]? = some (.cells #[.int .i64 ((rd_T73 l0_6 x4_1).f0), (.slice (some ad215) ((rd_T73 l0_6 x4_1).f1).length c213_1)] 73 (0, 0))) ∧ Aside0 (w'.heap[gb216]? = some (.cells #[.string ((rd_T71 ((rd_T73 l0_6 x4_1).f1) x6_2).f0), .int .u64 ((rd_T71 ((rd_T73 l0_6 x4_1).f1) x6_2).f1), (.slice (some ad217) ((rd_T71 ((rd_T73 l0_6 x4_1).f1) x6_2).f2).length c215_2)] 71 (0, 0))) ∧ Aside0 (w'.heap[gb218]? = some (.cells #[.int .i64 ((rd_T76 ((rd_T71 ((rd_T73 l0_6 x4_1).f1) x6_2).f2) x8_3).f0), (.slice A217_1 ((rd_T76 ((rd_T71 ((rd_T73 l0_6 x4_1).f1) x6_2).f2) x8_3).f1).length c217_1)] 76 (0, 0))) ∧ Aside0 (Below w.heap.size w w'))
             case atStart => exact ⟨(x3_3), (0), eR, H', ⟨Nat.le_refl _⟩, ⟨(rf (f2 rfl) HO_3 BK218).out⟩, ⟨(bf (f2 rfl) BK212 NB212_218.out).out⟩, ⟨(bf (f2 rfl) BK214 NB214_218.out).out⟩, ⟨(bf (f2 rfl) BK216 NB216_218.out).out⟩, ⟨(s2 rfl BK218).out⟩, ⟨pb HB⟩⟩
             case round =>
              clear H';(try clear c1);(try clear c2);(try clear p2);(try clear q2);(try clear hx2);(try clear c3);(try clear c3b0);(try clear c4);(try clear c4b0);(try clear c7);(try clear c9);(try clear c9b0);(try clear c10);(try clear c10b0);(try clear c11);(try clear c14);(try clear c15);(try clear c17);(try clear c17b0);(try clear c18);(try clear c18b0);(try clear c19);(try clear c20);(try clear c21);(try clear p21);(try clear q21);(try clear hx21);(try clear c23);(try clear c24);(try clear c25);(try clear hcz12_0 hcz12_1);(try clear hcz16_0 hcz16_1 hcz16_2);(try clear hcz21_0 hcz21_1 hcz21_2);(try clear hcz26_0 hcz26_1);(try clear hcz5_0 hcz5_1 hcz5_2 hcz5_3 hcz5_4 hcz5_5 hcz5_6);(try clear hcz8_0 hcz8_1);(try clear hfz12_0 hfz12_1);(try clear hfz16_0 hfz16_1 hfz16_2);(try clear hfz21_0 hfz21_1 hfz21_2);(try clear hfz26_0 hfz26_1);(try clear hfz5_0 hfz5_1 hfz5_2 hfz5_3 hfz5_4 hfz5_5 hfz5_6);(try clear hfz8_0 hfz8_1);(try clear hx213_0);(try clear hx213_1);(try clear hx215_0);(try clear hx215_1);(try clear hx215_2);(try clear hx217_0);(try clear hx217_1);(try clear p2);(try clear p213);(try clear p215);(try clear p217);(try clear q2);(try clear q213);(try clear q215);(try clear q217);obtain ⟨x3_4, x10_4, rfl, HA, HK4, HO_3, BK212, BK214, BK216, BK218, HB⟩ := hrel
              cases gk with
              | zero => exact absurd HA.out (by simp [r22_List.l3])
              | succ k4 =>
               have H := HA.out;clear HA
               simp only [r22_List.l3] at H
               by_cases c27 : x10_4 < (((rd_T76 ((rd_T71 ((rd_T73 l0_6 x4_1).f1) x6_2).f2) x8_3).f1).length : Int)
               ·rw [if_pos c27] at H;have c27b0 : decide (x10_4 < (((rd_T76 ((rd_T71 ((rd_T73 l0_6 x4_1).f1) x6_2).f2) x8_3).f1).length : Int)) = true := decide_eq_true c27;clear c27
                by_cases c28 : 0 ≤ x10_4
                ·rw [if_pos c28] at H;have c28b0 : decide (0 ≤ x10_4) = true := decide_eq_true c28;clear c28
                 by_cases c29 : x3_4.length < 2932031007402
                 ·rw [if_pos c29] at H;have LMc29 := am c29;clear c29;obtain ⟨y220, hy220⟩ : ∃ y_ : List (S46), y_ = (x3_4 ++ [(⟨((rd_T73 l0_6 x4_1).f0), ((rd_T71 ((rd_T73 l0_6 x4_1).f1) x6_2).f0), ((rd_T76 ((rd_T71 ((rd_T73 l0_6 x4_1).f1) x6_2).f2) x8_3).f0), (rd_T78 ((rd_T76 ((rd_T71 ((rd_T73 l0_6 x4_1).f1) x6_2).f2) x8_3).f1) x10_4).f0⟩ : S46)]) := ⟨_, rfl⟩
                  replace H : (r22_List.l3 k4 y220 x4_1 x6_2 x8_3 (wrap64 (x10_4 + 1)) a0_0 a0_1 a0_2 a0_3 a0_4 a0_5 l0_6 ((rd_T73 l0_6 x4_1).f0) ((rd_T73 l0_6 x4_1).f1) ((rd_T71 ((rd_T73 l0_6 x4_1).f1) x6_2).f0) ((rd_T71 ((rd_T73 l0_6 x4_1).f1) x6_2).f1) ((rd_T71 ((rd_T73 l0_6 x4_1).f1) x6_2).f2) ((rd_T76 ((rd_T71 ((rd_T73 l0_6 x4_1).f1) x6_2).f2) x8_3).f0) ((rd_T76 ((rd_T71 ((rd_T73 l0_6 x4_1).f1) x6_2).f2) x8_3).f1)) = some r := by first | (rw [hy220]; with_reducible exact H) | (have H2_ := (Option.bind_some _ _).symm.trans H; rw [hy220]; with_reducible exact H2_) | (have H2_ := (Option.bind_some _ _).symm.trans H; with_reducible exact H2_) | with_reducible exact H | (rw [hy220]; exact H) | exact H
                  have Ny220 := am hy220;clear hy220;have H' := am H;clear H;have hnb30 := NB218_212.out;have hnc30 := NB212_218.out;have hnb31 := NB218_214.out;have hnc31 := NB214_218.out;have hnb32 := NB218_216.out;have hnc32 := NB216_218.out;obtain ⟨hcz33_0, hcz33_1, hfz33_0, hfz33_1⟩ := g2 BK218
                  try go_wp2
                  replace HO_3 := am (Kd.R_drew HO_3.out);replace BK212 := am (blk_drew BK212.out);replace BK214 := am (blk_drew BK214.out);replace BK216 := am (blk_drew BK216.out);replace BK218 := am (blk_drew BK218.out);replace HB := am (below_drew1 HB.out);have p219 : 0 ≤ (x10_4 : Int) := od;have q219 : x10_4 < (((rd_T76 ((rd_T71 ((rd_T73 l0_6 x4_1).f1) x6_2).f2) x8_3).f1).length : Int) := od;obtain ⟨ad219, e219, hx219_0, hx219_1⟩ := at_T78 HR217_1.out x10_4 p219 q219;have hw219_1 := hx219_1;have hw219_0 := hx219_0;cases e219;replace hx219_0 := hQ HB hx219_0;replace hx219_1 := hQ HB hx219_1;replace p219 := eq_true p219;replace q219 := eq_true q219
                  refine start_ (n := 17) (S := fun w' => w'.cell? ⟨gb214, 0, none⟩ = some (.int .i64 ((rd_T73 l0_6 x4_1).f0)) ∧ w'.cell? ⟨gb214, 1, none⟩ = some (.slice (some ad215) ((rd_T73 l0_6 x4_1).f1).length c213_1) ∧ w'.cell? ⟨gb216, 0, none⟩ = some (.string ((rd_T71 ((rd_T73 l0_6 x4_1).f1) x6_2).f0)) ∧ w'.cell? ⟨gb216, 1, none⟩ = some (.int .u64 ((rd_T71 ((rd_T73 l0_6 x4_1).f1) x6_2).f1)) ∧ w'.cell? ⟨gb216, 2, none⟩ = some (.slice (some ad217) ((rd_T71 ((rd_T73 l0_6 x4_1).f1) x6_2).f2).length c215_2) ∧ w'.cell? ⟨gb218, 0, none⟩ = some (.int .i64 ((rd_T76 ((rd_T71 ((rd_T73 l0_6 x4_1).f1) x6_2).f2) x8_3).f0)) ∧ w'.cell? ⟨gb218, 1, none⟩ = some (.slice (some ad219) ((rd_T76 ((rd_T71 ((rd_T73 l0_6 x4_1).f1) x6_2).f2) x8_3).f1).length c217_1) ∧ w'.cell? (ad219.add ((x10_4).toNat * 2)) = some (.string ((rd_T78 ((rd_T76 ((rd_T71 ((rd_T73 l0_6 x4_1).f1) x6_2).f2) x8_3).f1) x10_4).f0)) ∧ w'.cell? ⟨(ad219.add ((x10_4).toNat * 2)).block, (ad219.add ((x10_4).toNat * 2)).off + 1, none⟩ = some (.int .u64 ((rd_T78 ((rd_T76 ((rd_T71 ((rd_T73 l0_6 x4_1).f1) x6_2).f2) x8_3).f1) x10_4).f1))) (ds := []) #[false, false, false, false, false, false, false, false, false, false, false, false, false, false, false, false, false] (by kernel_rfl) rfl rfl (K2 BK214 (K3 BK216 (K2 BK218 ⟨(hQ HB hw219_0), (hQ HB hw219_1)⟩))) (fun hHeld => ?_); refine with_tabW r22_List.tab17 r22_List.bits17 (fun HT_ HW_ => ?_)
                  generalize wr.drew = w34 at HO_3 BK212 BK214 BK216 BK218 HB hx219_0 hx219_1 hHeld ⊢
                  refine pu 0 ?_;refine pu 1 ?_;refine pu 3 ?_;refine pu 5 ?_;refine pu 7 ?_;refine pu 9 ?_;refine ta 2 hHeld ?_;refine ta 4 hHeld ?_;refine ta 6 hHeld ?_;refine ta 8 hHeld ?_;refine pu 10 ?_;refine pu 11 ?_;refine ta 12 hHeld ?_;refine pu 13 ?_
                  refine on1 14 (fun K hK => ?_)
                  refine value_ (w1 := ?_) (v := ?_) (by rfl) rfl ?_ ?_
                  rotate_left 2
                  ·go_simp
                   constructor
                   ·rfl
                   ·rfl
                  refine hK.out _ _ ⟨(blk_cell (blk_alloc BK214.out _) 0).trans rfl, (blk_cell (blk_alloc BK214.out _) 1).trans rfl, (blk_cell (blk_alloc BK216.out _) 0).trans rfl, (blk_cell (blk_alloc BK216.out _) 1).trans rfl, (blk_cell (blk_alloc BK216.out _) 2).trans rfl, (blk_cell (blk_alloc BK218.out _) 0).trans rfl, (blk_cell (blk_alloc BK218.out _) 1).trans rfl, (World.cell?_alloc_lt _ _ _ (World.block_lt_of_cell? _ _ ((hQ HB hw219_0)))).trans ((hQ HB hw219_0)), (World.cell?_alloc_lt _ _ _ (World.block_lt_of_cell? _ _ ((hQ HB hw219_1)))).trans ((hQ HB hw219_1))⟩ (fun hHeld => ?_)
                  clear hK K;refine nm ?_
                  refine on1 15 (fun K hK => ?_)
                  refine Kd.R_append_step k46 (w0 := w) w.heap.size (by rfl) (.tmp 54) (.tmp 68) 44 46 (.agg #[(.int .i64 0), (.string ⟨#[]⟩), (.int .i64 0), (.string ⟨#[]⟩)]) 48 rfl Try.underlying44 info46 rfl (by decide) (by omega) u3 x3_4 (⟨((rd_T73 l0_6 x4_1).f0), ((rd_T71 ((rd_T73 l0_6 x4_1).f1) x6_2).f0), ((rd_T76 ((rd_T71 ((rd_T73 l0_6 x4_1).f1) x6_2).f2) x8_3).f0), (rd_T78 ((rd_T76 ((rd_T71 ((rd_T73 l0_6 x4_1).f1) x6_2).f2) x8_3).f1) x10_4).f0⟩ : S46) [.int .i64 ((rd_T73 l0_6 x4_1).f0), .string ((rd_T71 ((rd_T73 l0_6 x4_1).f1) x6_2).f0), .int .i64 ((rd_T76 ((rd_T71 ((rd_T73 l0_6 x4_1).f1) x6_2).f2) x8_3).f0), .string ((rd_T78 ((rd_T76 ((rd_T71 ((rd_T73 l0_6 x4_1).f1) x6_2).f2) x8_3).f1) x10_4).f0)] (fun _ => True) (fun _ => False) rfl rfl ?aP (fun _ hk => hk.elim) ?aF ?aO ?aB ?aS ?aL ?_
                  (case aP => exact k46_mkM _ _ _ (⟨((rd_T73 l0_6 x4_1).f0), ((rd_T71 ((rd_T73 l0_6 x4_1).f1) x6_2).f0), ((rd_T76 ((rd_T71 ((rd_T73 l0_6 x4_1).f1) x6_2).f2) x8_3).f0), (rd_T78 ((rd_T76 ((rd_T71 ((rd_T73 l0_6 x4_1).f1) x6_2).f2) x8_3).f1) x10_4).f0⟩ : S46))
                  (case aB => exact (pb HB))
                  (case aF => exact (fun _ _ => trivial))
                  (case aO => exact (pr HO_3.out))
                  (case aS => exact (below_size (pb HB)))
                  (case aL => have := LMc29.out; omega)
                  intro v221 w35 ho hb hg hat
                  rw [← Ny220.out] at ho;replace BK212 := am (blk_grown (g := gb212) (o := .cells #[.int .u64 a0_0, .int .u64 a0_1, .int .i64 a0_2, .int .i64 a0_3, .int .i64 a0_4, .int .i64 a0_5, .slice (some ad213) l0_6.length c0_6] 32 (0, 0)) (pk BK212.out) hg (Kd.R_ne HO_3.out BK212.out (by decide)));replace BK214 := am (blk_grown (g := gb214) (o := .cells #[.int .i64 ((rd_T73 l0_6 x4_1).f0), .slice (some ad215) ((rd_T73 l0_6 x4_1).f1).length c213_1] 73 (0, 0)) (pk BK214.out) hg (Kd.R_ne HO_3.out BK214.out (by decide)));replace BK216 := am (blk_grown (g := gb216) (o := .cells #[.string ((rd_T71 ((rd_T73 l0_6 x4_1).f1) x6_2).f0), .int .u64 ((rd_T71 ((rd_T73 l0_6 x4_1).f1) x6_2).f1), .slice (some ad217) ((rd_T71 ((rd_T73 l0_6 x4_1).f1) x6_2).f2).length c215_2] 71 (0, 0)) (pk BK216.out) hg (Kd.R_ne HO_3.out BK216.out (by decide)));replace BK218 := am (blk_grown (g := gb218) (o := .cells #[.int .i64 ((rd_T76 ((rd_T71 ((rd_T73 l0_6 x4_1).f1) x6_2).f2) x8_3).f0), .slice (some ad219) ((rd_T76 ((rd_T71 ((rd_T73 l0_6 x4_1).f1) x6_2).f2) x8_3).f1).length c217_1] 76 (0, 0)) (pk BK218.out) hg (Kd.R_ne HO_3.out BK218.out (by decide)));replace HB := am (hb);have HO222 := am (ho);clear HO_3;clear ho hb hg hat
                  refine hK.out _ _ (K2 BK214 (K3 BK216 (K2 BK218 ⟨(hQ HB hw219_0), (hQ HB hw219_1)⟩))) (fun hHeld => ?_)
                  clear hK K;refine nm ?_;refine pu 16 ?_
                  refine done_ (done_of HT_.out (by kernel_rfl)) ?_
                  try go_wp2
                  go_roundg k4
                  case measure => have := HK1.out; have := HK2.out; have := HK3.out; have := HK4.out; omega
                  case rel => exact ⟨(y220), (wrap64 (x10_4 + 1)), eR, H', ⟨by have := HK1.out; have := HK2.out; have := HK3.out; have := HK4.out; omega⟩, ⟨pr HO222.out⟩, ⟨pk BK212.out⟩, ⟨pk BK214.out⟩, ⟨pk BK216.out⟩, ⟨pk BK218.out⟩, ⟨pb HB⟩⟩
                 ·rw [if_neg c29] at H;exact absurd H (by simp)
                ·rw [if_neg c28] at H;exact absurd H (by simp)
               ·rw [if_neg c27] at H;have c27b0 : decide (x10_4 < (((rd_T76 ((rd_T71 ((rd_T73 l0_6 x4_1).f1) x6_2).f2) x8_3).f1).length : Int)) = false := decide_eq_false c27;clear c27;have H' := am H;clear H;have hnb36 := NB218_212.out;have hnc36 := NB212_218.out;have hnb37 := NB218_214.out;have hnc37 := NB214_218.out;have hnb38 := NB218_216.out;have hnc38 := NB216_218.out;obtain ⟨hcz39_0, hcz39_1, hfz39_0, hfz39_1⟩ := g2 BK218
                go_wp2
                go_roundg k4
                case measure => have := HK1.out; have := HK2.out; have := HK3.out; have := HK4.out; omega
                case rel => exact ⟨(x3_4), (wrap64 (x8_3 + 1)), eR, H', ⟨by have := HK1.out; have := HK2.out; have := HK3.out; have := HK4.out; omega⟩, ⟨pr HO_3.out⟩, ⟨pk BK212.out⟩, ⟨pk BK214.out⟩, ⟨pk BK216.out⟩, ⟨pb HB⟩⟩
            ·rw [if_neg c18] at H;exact absurd H (by simp)
           ·rw [if_neg c17] at H;have c17b0 : decide (x8_3 < (((rd_T71 ((rd_T73 l0_6 x4_1).f1) x6_2).f2).length : Int)) = false := decide_eq_false c17;clear c17;have H' := am H;clear H;have hnb40 := NB216_212.out;have hnc40 := NB212_216.out;have hnb41 := NB216_214.out;have hnc41 := NB214_216.out;obtain ⟨hcz42_0, hcz42_1, hcz42_2, hfz42_0, hfz42_1, hfz42_2⟩ := g3 BK216
            go_wp2
            go_roundg k3
            case measure => have := HK1.out; have := HK2.out; have := HK3.out; omega
            case rel => exact ⟨(x3_3), (wrap64 (x6_2 + 1)), eR, H', ⟨by have := HK1.out; have := HK2.out; have := HK3.out; omega⟩, ⟨pr HO_3.out⟩, ⟨pk BK212.out⟩, ⟨pk BK214.out⟩, ⟨pb HB⟩⟩
        ·rw [if_neg c10] at H;exact absurd H (by simp)
       ·rw [if_neg c9] at H;have c9b0 : decide (x6_2 < (((rd_T73 l0_6 x4_1).f1).length : Int)) = false := decide_eq_false c9;clear c9;have H' := am H;clear H;have hnb43 := NB214_212.out;have hnc43 := NB212_214.out;obtain ⟨hcz44_0, hcz44_1, hfz44_0, hfz44_1⟩ := g2 BK214
        go_wp2
        go_roundg k2
        case measure => have := HK1.out; have := HK2.out; omega
        case rel => exact ⟨(x3_2), (wrap64 (x4_1 + 1)), eR, H', ⟨by have := HK1.out; have := HK2.out; omega⟩, ⟨pr HO_3.out⟩, ⟨pk BK212.out⟩, ⟨pb HB⟩⟩
    ·rw [if_neg c4] at H;exact absurd H (by simp)
   ·rw [if_neg c3] at H;have c3b0 : decide (x4_1 < (l0_6.length : Int)) = false := decide_eq_false c3;clear c3;obtain rfl := Option.some.inj H;obtain ⟨hcz45_0, hcz45_1, hcz45_2, hcz45_3, hcz45_4, hcz45_5, hcz45_6, hfz45_0, hfz45_1, hfz45_2, hfz45_3, hfz45_4, hfz45_5, hfz45_6⟩ := g7 BK212
    go_wp2
    go_ret
    exact ⟨_, ey (h := ⟨by refine pr ?_; exact HO_3.out, pb HB⟩)⟩
end Go.Proofs.Ytagcobdpojeiiaa.H
