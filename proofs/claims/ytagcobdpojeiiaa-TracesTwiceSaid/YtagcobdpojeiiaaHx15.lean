import Derived.Test.YtagcobdpojeiiaaHx0
import Derived.Test.YtagcobdpojeiiaaHx11
namespace Go.Proofs.Ytagcobdpojeiiaa.H
open Go.RowKit Go.Proofs.YtagcobdpojeiiaaW.PrintWords Go.Proofs.YtagcobdpojeiiaaW.PrintLast Go.Proofs.YtagcobdpojeiiaaW.PrintMore Go.Proofs.YtagcobdpojeiiaaW.Sq
attribute [local go_sem] max2_int min2_int max_two min_two max_three min_three max_four min_four
set_option linter.unusedVariables false
set_option linter.unusedSimpArgs false

mutual
def t_list.l0 : Nat → List (S29) → List (S63) → Int → Int → Option ((List (S29)))
 | 0, _, _, _, _ => none
 | k + 1, x3, x13, x14, x15 => if x15 < x14 then (if 0 ≤ x15 then (if x15 < (x13.length : Int) then (t_list.l1 k x3 x13 x14 x15 ((rd_T63 x13 x15).f1) (((rd_T63 x13 x15).f1).length : Int) 0 ((rd_T63 x13 x15).f0) ((rd_T63 x13 x15).f1)) else (none)) else (none)) else (some x3)
def t_list.l1 : Nat → List (S29) → List (S63) → Int → Int → List (S67) → Int → Int → Int → List (S67) → Option ((List (S29)))
 | 0, _, _, _, _, _, _, _, _, _ => none
 | k + 1, x3, x13, x14, x15, x20, x21, x22, x272000, x272001 => if x22 < x21 then (if 0 ≤ x22 then (if x22 < (x20.length : Int) then (t_list.l2 k x3 x13 x14 x15 x20 x21 x22 ((rd_T67 x20 x22).f2) (((rd_T67 x20 x22).f2).length : Int) 0 x272000 x272001 ((rd_T67 x20 x22).f0) ((rd_T67 x20 x22).f1) ((rd_T67 x20 x22).f2)) else (none)) else (none)) else (t_list.l0 k x3 x13 x14 (wrap64 (x15 + 1)))
def t_list.l2 : Nat → List (S29) → List (S63) → Int → Int → List (S67) → Int → Int → List (S84) → Int → Int → Int → List (S67) → ByteArray → Int → List (S84) → Option ((List (S29)))
 | 0, _, _, _, _, _, _, _, _, _, _, _, _, _, _, _ => none
 | k + 1, x3, x13, x14, x15, x20, x21, x22, x27, x28, x29, x272000, x272001, x274000, x274001, x274002 => if x29 < x28 then (if 0 ≤ x29 then (if x29 < (x27.length : Int) then (t_list.l3 k x3 x13 x14 x15 x20 x21 x22 x27 x28 x29 ((rd_T84 x27 x29).f1) (((rd_T84 x27 x29).f1).length : Int) 0 x272000 x272001 x274000 x274001 x274002 ((rd_T84 x27 x29).f0) ((rd_T84 x27 x29).f1)) else (none)) else (none)) else (t_list.l1 k x3 x13 x14 x15 x20 x21 (wrap64 (x22 + 1)) x272000 x272001)
def t_list.l3 : Nat → List (S29) → List (S63) → Int → Int → List (S67) → Int → Int → List (S84) → Int → Int → List (S91) → Int → Int → Int → List (S67) → ByteArray → Int → List (S84) → Int → List (S91) → Option ((List (S29)))
 | 0, _, _, _, _, _, _, _, _, _, _, _, _, _, _, _, _, _, _, _, _ => none
 | k + 1, x3, x13, x14, x15, x20, x21, x22, x27, x28, x29, x34, x35, x36, x272000, x272001, x274000, x274001, x274002, x276000, x276001 => if x36 < x35 then (if 0 ≤ x36 then (if x36 < (x34.length : Int) then (if x3.length < 2932031007402 then (t_list.l3 k (x3 ++ [(⟨x272000, x274000, x276000, (rd_T91 x34 x36).f0⟩ : S29)]) x13 x14 x15 x20 x21 x22 x27 x28 x29 x34 x35 (wrap64 (x36 + 1)) x272000 x272001 x274000 x274001 x274002 x276000 x276001) else (none)) else (none)) else (none)) else (t_list.l2 k x3 x13 x14 x15 x20 x21 x22 x27 x28 (wrap64 (x29 + 1)) x272000 x272001 x274000 x274001 x274002)
end
def t_list.f (k : Nat) (a0_0 : Int) (a0_1 : Int) (a0_2 : Int) (a0_3 : Int) (a0_4 : Int) (a0_5 : Int) (l0_6 : List (S63)) : Option ((List (S29))) := t_list.l0 k ([] : List (S29)) l0_6 (l0_6.length : Int) 0
theorem t_list.mono_l : ∀ k, (∀ y0 y1 y2 y3, LeO (t_list.l0 k y0 y1 y2 y3) (t_list.l0 (k + 1) y0 y1 y2 y3)) ∧ (∀ y0 y1 y2 y3 y4 y5 y6 y7 y8, LeO (t_list.l1 k y0 y1 y2 y3 y4 y5 y6 y7 y8) (t_list.l1 (k + 1) y0 y1 y2 y3 y4 y5 y6 y7 y8)) ∧ (∀ y0 y1 y2 y3 y4 y5 y6 y7 y8 y9 y10 y11 y12 y13 y14, LeO (t_list.l2 k y0 y1 y2 y3 y4 y5 y6 y7 y8 y9 y10 y11 y12 y13 y14) (t_list.l2 (k + 1) y0 y1 y2 y3 y4 y5 y6 y7 y8 y9 y10 y11 y12 y13 y14)) ∧ (∀ y0 y1 y2 y3 y4 y5 y6 y7 y8 y9 y10 y11 y12 y13 y14 y15 y16 y17 y18 y19, LeO (t_list.l3 k y0 y1 y2 y3 y4 y5 y6 y7 y8 y9 y10 y11 y12 y13 y14 y15 y16 y17 y18 y19) (t_list.l3 (k + 1) y0 y1 y2 y3 y4 y5 y6 y7 y8 y9 y10 y11 y12 y13 y14 y15 y16 y17 y18 y19))
 | 0 => ⟨fun _ _ _ _ r h => by simp [t_list.l0] at h, fun _ _ _ _ _ _ _ _ _ r h => by simp [t_list.l1] at h, fun _ _ _ _ _ _ _ _ _ _ _ _ _ _ _ r h => by simp [t_list.l2] at h, fun _ _ _ _ _ _ _ _ _ _ _ _ _ _ _ _ _ _ _ _ r h => by simp [t_list.l3] at h⟩
 | k + 1 => by
  obtain ⟨ih0, ih1, ih2, ih3⟩ := t_list.mono_l k
  refine ⟨?_, ?_, ?_, ?_⟩
  ·intro y0 y1 y2 y3
   unfold t_list.l0
   repeat' first
   | (with_reducible exact ih0 _ _ _ _)
   | (with_reducible exact ih1 _ _ _ _ _ _ _ _ _)
   | (with_reducible exact ih2 _ _ _ _ _ _ _ _ _ _ _ _ _ _ _)
   | (with_reducible exact ih3 _ _ _ _ _ _ _ _ _ _ _ _ _ _ _ _ _ _ _ _)
   | (with_reducible exact LeO.refl _)
   | (with_reducible exact LeO.none _)
   | (with_reducible refine LeO.ite ?_ ?_)
   | (with_reducible refine LeO.bind ?_ (fun _ => ?_))
  ·intro y0 y1 y2 y3 y4 y5 y6 y7 y8
   unfold t_list.l1
   repeat' first
   | (with_reducible exact ih0 _ _ _ _)
   | (with_reducible exact ih1 _ _ _ _ _ _ _ _ _)
   | (with_reducible exact ih2 _ _ _ _ _ _ _ _ _ _ _ _ _ _ _)
   | (with_reducible exact ih3 _ _ _ _ _ _ _ _ _ _ _ _ _ _ _ _ _ _ _ _)
   | (with_reducible exact LeO.refl _)
   | (with_reducible exact LeO.none _)
   | (with_reducible refine LeO.ite ?_ ?_)
   | (with_reducible refine LeO.bind ?_ (fun _ => ?_))
  ·intro y0 y1 y2 y3 y4 y5 y6 y7 y8 y9 y10 y11 y12 y13 y14
   unfold t_list.l2
   repeat' first
   | (with_reducible exact ih0 _ _ _ _)
   | (with_reducible exact ih1 _ _ _ _ _ _ _ _ _)
   | (with_reducible exact ih2 _ _ _ _ _ _ _ _ _ _ _ _ _ _ _)
   | (with_reducible exact ih3 _ _ _ _ _ _ _ _ _ _ _ _ _ _ _ _ _ _ _ _)
   | (with_reducible exact LeO.refl _)
   | (with_reducible exact LeO.none _)
   | (with_reducible refine LeO.ite ?_ ?_)
   | (with_reducible refine LeO.bind ?_ (fun _ => ?_))
  ·intro y0 y1 y2 y3 y4 y5 y6 y7 y8 y9 y10 y11 y12 y13 y14 y15 y16 y17 y18 y19
   unfold t_list.l3
   repeat' first
   | (with_reducible exact ih0 _ _ _ _)
   | (with_reducible exact ih1 _ _ _ _ _ _ _ _ _)
   | (with_reducible exact ih2 _ _ _ _ _ _ _ _ _ _ _ _ _ _ _)
   | (with_reducible exact ih3 _ _ _ _ _ _ _ _ _ _ _ _ _ _ _ _ _ _ _ _)
   | (with_reducible exact LeO.refl _)
   | (with_reducible exact LeO.none _)
   | (with_reducible refine LeO.ite ?_ ?_)
   | (with_reducible refine LeO.bind ?_ (fun _ => ?_))
theorem t_list.mono : ∀ a0 a1 a2 a3 a4 a5 a6 k, LeO (t_list.f k a0 a1 a2 a3 a4 a5 a6) (t_list.f (k + 1) a0 a1 a2 a3 a4 a5 a6) := by
 intro a0 a1 a2 a3 a4 a5 a6 k
 obtain ⟨ih0, ih1, ih2, ih3⟩ := t_list.mono_l k
 unfold t_list.f
 repeat' first
   | (with_reducible exact ih0 _ _ _ _)
   | (with_reducible exact ih1 _ _ _ _ _ _ _ _ _)
   | (with_reducible exact ih2 _ _ _ _ _ _ _ _ _ _ _ _ _ _ _)
   | (with_reducible exact ih3 _ _ _ _ _ _ _ _ _ _ _ _ _ _ _ _ _ _ _ _)
   | (with_reducible exact LeO.refl _)
   | (with_reducible exact LeO.none _)
   | (with_reducible refine LeO.ite ?_ ?_)
   | (with_reducible refine LeO.bind ?_ (fun _ => ?_))
set_option maxHeartbeats 8000000 in
set_option maxRecDepth 100000 in
theorem t_list.calls (k : Nat) (a0_0 : Int) (a0_1 : Int) (a0_2 : Int) (a0_3 : Int) (a0_4 : Int) (a0_5 : Int) (A0_6 : Option Addr) (c0_6 : Nat) (l0_6 : List (S63)) (r : List (S29)) (w : World) (hr0_6 : Kd.C k63 w A0_6 l0_6.length l0_6) (hc0_6 : l0_6.length ≤ c0_6) (h : t_list.f k a0_0 a0_1 a0_2 a0_3 a0_4 a0_5 l0_6 = some r) :
  Calls Try.prog 28 #[.agg #[.int .u64 a0_0, .int .u64 a0_1, .int .i64 a0_2, .int .i64 a0_3, .int .i64 a0_4, .int .i64 a0_5, .slice A0_6 l0_6.length c0_6]] w fun e w' => ∃ v0_ : Value, e = .returned (v0_) ∧ Kd.R k29 29 w' w.heap.size (fun _ => True) v0_ r ∧ Below w.heap.size w w' := by
 have hu27 := Try.underlying27;have hu63 := Try.underlying63;have hu67 := Try.underlying67;have hu84 := Try.underlying84;have hu91 := Try.underlying91;have hu29 := Try.underlying29;have HR0_6 := am hr0_6;have HC0_6 := am hc0_6;clear hr0_6 hc0_6;have HB := am (Below.refl w.heap.size w);have H : (t_list.l0 k ([] : List (S29)) l0_6 (l0_6.length : Int) 0) = some r := h;clear h;have H' := am H;clear H
 go_enter Try.func28, Try.ntmps28
 go_wp2_with (first | ((with_reducible refine gate_dst (N := 1) rfl ?_); refine be 1 #[.int .u64 a0_0, .int .u64 a0_1, .int .i64 a0_2, .int .i64 a0_3, .int .i64 a0_4, .int .i64 a0_5, .slice A0_6 l0_6.length c0_6] 27 ?_; intro gb269 hg w2 hbox hb; have BK269 := am (hbox); have GW269 := gq hg HB; have GE269 := gq hg HB; replace HB := lb HB hb; clear hb hbox hg; obtain ⟨hcz3_0, hcz3_1, hcz3_2, hcz3_3, hcz3_4, hcz3_5, hcz3_6, hfz3_0, hfz3_1, hfz3_2, hfz3_3, hfz3_4, hfz3_5, hfz3_6⟩ := g7 BK269))
 go_loopg [3, 15] k (fun kq v3 v15 w' => ∃ (x3_1 : List (S29)) (x15_1 : Int), v15 = .int .i64 x15_1 ∧ Aside0 (t_list.l0 kq x3_1 l0_6 (l0_6.length : Int) x15_1 = some r) ∧ Aside0 (kq ≤ k) ∧ Aside0 (Kd.R k29 29 w' w.heap.size (fun _ => True) v3 x3_1) ∧ Aside0 (w'.heap[gb269]? = some (.cells #[.int .u64 a0_0, .int .u64 a0_1, .int .i64 a0_2, .int .i64 a0_3, .int .i64 a0_4, .int .i64 a0_5, (.slice A0_6 l0_6.length c0_6)] 27 (0, 0))) ∧ Aside0 (Below w.heap.size w w'))
 case atStart => exact ⟨(([] : List (S29))), (0), eR, H', ⟨Nat.le_refl _⟩, ⟨by first | exact Kd.R_nil _ _ _ _ _ | exact Kd.N_nil _ _ _ _ _ | exact Kd.V_nil _ _ _ _ _ | exact Kd.Q_nil _ _ _ _ _ | exact Kd.S_nil _ _ _ _ _⟩, ⟨pk BK269.out⟩, ⟨pb HB⟩⟩
 case round =>
  clear H';(try clear c2);(try clear p2);(try clear hcz3_0 hcz3_1 hcz3_2 hcz3_3 hcz3_4 hcz3_5 hcz3_6 hfz3_0 hfz3_1 hfz3_2 hfz3_3 hfz3_4 hfz3_5 hfz3_6);obtain ⟨x3_1, x15_1, rfl, HA, HK1, HO_3, BK269, HB⟩ := hrel
  cases gk with
  | zero => exact absurd HA.out (by simp [t_list.l0])
  | succ k1 =>
   have H := HA.out;clear HA
   simp only [t_list.l0] at H
   by_cases c4 : x15_1 < (l0_6.length : Int)
   ·rw [if_pos c4] at H;have c4b0 : decide (x15_1 < (l0_6.length : Int)) = true := decide_eq_true c4;clear c4
    by_cases c5 : 0 ≤ x15_1
    ·rw [if_pos c5] at H;have c5b0 : decide (0 ≤ x15_1) = true := decide_eq_true c5;clear c5
     by_cases c6 : x15_1 < (l0_6.length : Int)
     ·rw [if_pos c6] at H;have c6b0 : decide (x15_1 < (l0_6.length : Int)) = true := decide_eq_true c6;clear c6;have H' := am H;clear H;have p270 : 0 ≤ (x15_1 : Int) := od;have q270 : x15_1 < (l0_6.length : Int) := od;obtain ⟨ad270, A270_1, c270_1, e270, hx270_0, hx270_1, hl270_1, hi270_1⟩ := at_T63 HR0_6.out x15_1 p270 q270;cases e270;replace hx270_0 := hQ HB hx270_0;replace hx270_1 := hQ HB hx270_1;have HR270_1 := am hi270_1;have HC270_1 := am hl270_1;clear hi270_1 hl270_1;replace p270 := eq_true p270;replace q270 := eq_true q270
      go_wp2_with (first | ((with_reducible refine gate_dst (N := 5) rfl ?_); refine be 5 #[.int .i64 0, .slice none 0 0] 63 ?_; intro gb271 hg w7 hbox hb; replace HO_3 := rb HO_3 hb; have BK271 := am (hbox); have GW271 := gq hg HB; have GE271 := gq hg HB; replace HB := lb HB hb; obtain ⟨NB269_271, NB271_269, hnc8, hnb8⟩ := pm hg BK269; replace BK269 := kb BK269 hb; clear hb hbox hg; obtain ⟨hcz9_0, hcz9_1, hfz9_0, hfz9_1⟩ := g2 BK271))
      go_loopg [3, 22] k1 (fun kq v3 v22 w' => ∃ (x3_2 : List (S29)) (x22_2 : Int), v22 = .int .i64 x22_2 ∧ Aside0 (t_list.l1 kq x3_2 l0_6 (l0_6.length : Int) x15_1 ((rd_T63 l0_6 x15_1).f1) (((rd_T63 l0_6 x15_1).f1).length : Int) x22_2 ((rd_T63 l0_6 x15_1).f0) ((rd_T63 l0_6 x15_1).f1) = some r) ∧ Aside0 (kq ≤ k1) ∧ Aside0 (Kd.R k29 29 w' w.heap.size (fun _ => True) v3 x3_2) ∧ Aside0 (w'.heap[gb269]? = some (.cells #[.int .u64 a0_0, .int .u64 a0_1, .int .i64 a0_2, .int .i64 a0_3, .int .i64 a0_4, .int .i64 a0_5, (.slice (some ad270) l0_6.length c0_6)] 27 (0, 0))) ∧ Aside0 (w'.heap[gb271]? = some (.cells #[.int .i64 ((rd_T63 l0_6 x15_1).f0), (.slice A270_1 ((rd_T63 l0_6 x15_1).f1).length c270_1)] 63 (0, 0))) ∧ Aside0 (Below w.heap.size w w'))
      case atStart => exact ⟨(x3_1), (0), eR, H', ⟨Nat.le_refl _⟩, ⟨(rf (f2 rfl) HO_3 BK271).out⟩, ⟨(bf (f2 rfl) BK269 NB269_271.out).out⟩, ⟨(s2 rfl BK271).out⟩, ⟨pb HB⟩⟩
      case round =>
       clear H';(try clear c2);(try clear p2);(try clear q2);(try clear hx2);(try clear c4);(try clear c4b0);(try clear c5);(try clear c5b0);(try clear c6);(try clear c6b0);(try clear c8);(try clear hcz3_0 hcz3_1 hcz3_2 hcz3_3 hcz3_4 hcz3_5 hcz3_6);(try clear hcz9_0 hcz9_1);(try clear hfz3_0 hfz3_1 hfz3_2 hfz3_3 hfz3_4 hfz3_5 hfz3_6);(try clear hfz9_0 hfz9_1);(try clear hx270_0);(try clear hx270_1);(try clear p2);(try clear p270);(try clear q270);obtain ⟨x3_2, x22_2, rfl, HA, HK2, HO_3, BK269, BK271, HB⟩ := hrel
       cases gk with
       | zero => exact absurd HA.out (by simp [t_list.l1])
       | succ k2 =>
        have H := HA.out;clear HA
        simp only [t_list.l1] at H
        by_cases c10 : x22_2 < (((rd_T63 l0_6 x15_1).f1).length : Int)
        ·rw [if_pos c10] at H;have c10b0 : decide (x22_2 < (((rd_T63 l0_6 x15_1).f1).length : Int)) = true := decide_eq_true c10;clear c10
         by_cases c11 : 0 ≤ x22_2
         ·rw [if_pos c11] at H;have c11b0 : decide (0 ≤ x22_2) = true := decide_eq_true c11;clear c11
          by_cases c12 : x22_2 < (((rd_T63 l0_6 x15_1).f1).length : Int)
          ·rw [if_pos c12] at H;have c12b0 : decide (x22_2 < (((rd_T63 l0_6 x15_1).f1).length : Int)) = true := decide_eq_true c12;clear c12;have H' := am H;clear H;have p272 : 0 ≤ (x22_2 : Int) := od;have q272 : x22_2 < (((rd_T63 l0_6 x15_1).f1).length : Int) := od;obtain ⟨ad272, A272_2, c272_2, e272, hx272_0, hx272_1, hx272_2, hl272_2, hi272_2⟩ := at_T67 HR270_1.out x22_2 p272 q272;cases e272;replace hx272_0 := hQ HB hx272_0;replace hx272_1 := hQ HB hx272_1;replace hx272_2 := hQ HB hx272_2;have HR272_2 := am hi272_2;have HC272_2 := am hl272_2;clear hi272_2 hl272_2;replace p272 := eq_true p272;replace q272 := eq_true q272
           go_wp2_with (first | ((with_reducible refine gate_dst (N := 7) rfl ?_); refine be 7 #[.string (⟨#[]⟩ : ByteArray), .int .u64 0, .slice none 0 0] 67 ?_; intro gb273 hg w13 hbox hb; replace HO_3 := rb HO_3 hb; have BK273 := am (hbox); have GW273 := gq hg HB; have GE273 := gq hg HB; replace HB := lb HB hb; obtain ⟨NB269_273, NB273_269, hnc14, hnb14⟩ := pm hg BK269; replace BK269 := kb BK269 hb; obtain ⟨NB271_273, NB273_271, hnc15, hnb15⟩ := pm hg BK271; replace BK271 := kb BK271 hb; clear hb hbox hg; obtain ⟨hcz16_0, hcz16_1, hcz16_2, hfz16_0, hfz16_1, hfz16_2⟩ := g3 BK273))
           go_loopg [3, 29] k2 (fun kq v3 v29 w' => ∃ (x3_3 : List (S29)) (x29_3 : Int), v29 = .int .i64 x29_3 ∧ Aside0 (t_list.l2 kq x3_3 l0_6 (l0_6.length : Int) x15_1 ((rd_T63 l0_6 x15_1).f1) (((rd_T63 l0_6 x15_1).f1).length : Int) x22_2 ((rd_T67 ((rd_T63 l0_6 x15_1).f1) x22_2).f2) (((rd_T67 ((rd_T63 l0_6 x15_1).f1) x22_2).f2).length : Int) x29_3 ((rd_T63 l0_6 x15_1).f0) ((rd_T63 l0_6 x15_1).f1) ((rd_T67 ((rd_T63 l0_6 x15_1).f1) x22_2).f0) ((rd_T67 ((rd_T63 l0_6 x15_1).f1) x22_2).f1) ((rd_T67 ((rd_T63 l0_6 x15_1).f1) x22_2).f2) = some r) ∧ Aside0 (kq ≤ k2) ∧ Aside0 (Kd.R k29 29 w' w.heap.size (fun _ => True) v3 x3_3) ∧ Aside0 (w'.heap[gb269]? = some (.cells #[.int .u64 a0_0, .int .u64 a0_1, .int .i64 a0_2, .int .i64 a0_3, .int .i64 a0_4, .int .i64 a0_5, (.slice (some ad270) l0_6.length c0_6)] 27 (0, 0))) ∧ Aside0 (w'.heap[gb271]? = some (.cells #[.int .i64 ((rd_T63 l0_6 x15_1).f0), (.slice (some ad272) ((rd_T63 l0_6 x15_1).f1).length c270_1)] 63 (0, 0))) ∧ Aside0 (w'.heap[gb273]? = some (.cells #[.string ((rd_T67 ((rd_T63 l0_6 x15_1).f1) x22_2).f0), .int .u64 ((rd_T67 ((rd_T63 l0_6 x15_1).f1) x22_2).f1), (.slice A272_2 ((rd_T67 ((rd_T63 l0_6 x15_1).f1) x22_2).f2).length c272_2)] 67 (0, 0))) ∧ Aside0 (Below w.heap.size w w'))
           case atStart => exact ⟨(x3_2), (0), eR, H', ⟨Nat.le_refl _⟩, ⟨(rf (f3 rfl) HO_3 BK273).out⟩, ⟨(bf (f3 rfl) BK269 NB269_273.out).out⟩, ⟨(bf (f3 rfl) BK271 NB271_273.out).out⟩, ⟨(s3 rfl BK273).out⟩, ⟨pb HB⟩⟩
           case round =>
            clear H';(try clear c1);(try clear c2);(try clear p2);(try clear q2);(try clear hx2);(try clear c4);(try clear c4b0);(try clear c5);(try clear c5b0);(try clear c6);(try clear c6b0);(try clear c8);(try clear c10);(try clear c10b0);(try clear c11);(try clear c11b0);(try clear c12);(try clear c12b0);(try clear c14);(try clear c15);(try clear hcz16_0 hcz16_1 hcz16_2);(try clear hcz3_0 hcz3_1 hcz3_2 hcz3_3 hcz3_4 hcz3_5 hcz3_6);(try clear hcz9_0 hcz9_1);(try clear hfz16_0 hfz16_1 hfz16_2);(try clear hfz3_0 hfz3_1 hfz3_2 hfz3_3 hfz3_4 hfz3_5 hfz3_6);(try clear hfz9_0 hfz9_1);(try clear hx270_0);(try clear hx270_1);(try clear hx272_0);(try clear hx272_1);(try clear hx272_2);(try clear p2);(try clear p270);(try clear p272);(try clear q2);(try clear q270);(try clear q272);obtain ⟨x3_3, x29_3, rfl, HA, HK3, HO_3, BK269, BK271, BK273, HB⟩ := hrel
            cases gk with
            | zero => exact absurd HA.out (by simp [t_list.l2])
            | succ k3 =>
             have H := HA.out;clear HA
             simp only [t_list.l2] at H
             by_cases c17 : x29_3 < (((rd_T67 ((rd_T63 l0_6 x15_1).f1) x22_2).f2).length : Int)
             ·rw [if_pos c17] at H;have c17b0 : decide (x29_3 < (((rd_T67 ((rd_T63 l0_6 x15_1).f1) x22_2).f2).length : Int)) = true := decide_eq_true c17;clear c17
              by_cases c18 : 0 ≤ x29_3
              ·rw [if_pos c18] at H;have c18b0 : decide (0 ≤ x29_3) = true := decide_eq_true c18;clear c18
               by_cases c19 : x29_3 < (((rd_T67 ((rd_T63 l0_6 x15_1).f1) x22_2).f2).length : Int)
               ·rw [if_pos c19] at H;have c19b0 : decide (x29_3 < (((rd_T67 ((rd_T63 l0_6 x15_1).f1) x22_2).f2).length : Int)) = true := decide_eq_true c19;clear c19;have H' := am H;clear H;have p274 : 0 ≤ (x29_3 : Int) := od;have q274 : x29_3 < (((rd_T67 ((rd_T63 l0_6 x15_1).f1) x22_2).f2).length : Int) := od;obtain ⟨ad274, A274_1, c274_1, e274, hx274_0, hx274_1, hl274_1, hi274_1⟩ := at_T84 HR272_2.out x29_3 p274 q274;cases e274;replace hx274_0 := hQ HB hx274_0;replace hx274_1 := hQ HB hx274_1;have HR274_1 := am hi274_1;have HC274_1 := am hl274_1;clear hi274_1 hl274_1;replace p274 := eq_true p274;replace q274 := eq_true q274
                go_wp2_with (first | ((with_reducible refine gate_dst (N := 9) rfl ?_); refine be 9 #[.int .i64 0, .slice none 0 0] 84 ?_; intro gb275 hg w20 hbox hb; replace HO_3 := rb HO_3 hb; have BK275 := am (hbox); have GW275 := gq hg HB; have GE275 := gq hg HB; replace HB := lb HB hb; obtain ⟨NB269_275, NB275_269, hnc21, hnb21⟩ := pm hg BK269; replace BK269 := kb BK269 hb; obtain ⟨NB271_275, NB275_271, hnc22, hnb22⟩ := pm hg BK271; replace BK271 := kb BK271 hb; obtain ⟨NB273_275, NB275_273, hnc23, hnb23⟩ := pm hg BK273; replace BK273 := kb BK273 hb; clear hb hbox hg; obtain ⟨hcz24_0, hcz24_1, hfz24_0, hfz24_1⟩ := g2 BK275))
                go_loopg [3, 36] k3 (fun kq v3 v36 w' => ∃ (x3_4 : List (S29)) (x36_4 : Int), v36 = .int .i64 x36_4 ∧ Aside0 (t_list.l3 kq x3_4 l0_6 (l0_6.length : Int) x15_1 ((rd_T63 l0_6 x15_1).f1) (((rd_T63 l0_6 x15_1).f1).length : Int) x22_2 ((rd_T67 ((rd_T63 l0_6 x15_1).f1) x22_2).f2) (((rd_T67 ((rd_T63 l0_6 x15_1).f1) x22_2).f2).length : Int) x29_3 ((rd_T84 ((rd_T67 ((rd_T63 l0_6 x15_1).f1) x22_2).f2) x29_3).f1) (((rd_T84 ((rd_T67 ((rd_T63 l0_6 x15_1).f1) x22_2).f2) x29_3).f1).length : Int) x36_4 ((rd_T63 l0_6 x15_1).f0) ((rd_T63 l0_6 x15_1).f1) ((rd_T67 ((rd_T63 l0_6 x15_1).f1) x22_2).f0) ((rd_T67 ((rd_T63 l0_6 x15_1).f1) x22_2).f1) ((rd_T67 ((rd_T63 l0_6 x15_1).f1) x22_2).f2) ((rd_T84 ((rd_T67 ((rd_T63 l0_6 x15_1).f1) x22_2).f2) x29_3).f0) ((rd_T84 ((rd_T67 ((rd_T63 l0_6 x15_1).f1) x22_2).f2) x29_3).f1) = some r) ∧ Aside0 (kq ≤ k3) ∧ Aside0 (Kd.R k29 29 w' w.heap.size (fun _ => True) v3 x3_4) ∧ Aside0 (w'.heap[gb269]? = some (.cells #[.int .u64 a0_0, .int .u64 a0_1, .int .i64 a0_2, .int .i64 a0_3, .int .i64 a0_4, .int .i64 a0_5, (.slice (some ad270) l0_6.length c0_6)] 27 (0, 0))) ∧ Aside0 (w'.heap[gb271]? = some (.cells #[.int .i64 ((rd_T63 l0_6 x15_1).f0), (.slice (some ad272) ((rd_T63 l0_6 x15_1).f1).length c270_1)] 63 (0, 0))) ∧ Aside0 (w'.heap[gb273]? = some (.cells #[.string ((rd_T67 ((rd_T63 l0_6 x15_1).f1) x22_2).f0), .int .u64 ((rd_T67 ((rd_T63 l0_6 x15_1).f1) x22_2).f1), (.slice (some ad274) ((rd_T67 ((rd_T63 l0_6 x15_1).f1) x22_2).f2).length c272_2)] 67 (0, 0))) ∧ Aside0 (w'.heap[gb275]? = some (.cells #[.int .i64 ((rd_T84 ((rd_T67 ((rd_T63 l0_6 x15_1).f1) x22_2).f2) x29_3).f0), (.slice A274_1 ((rd_T84 ((rd_T67 ((rd_T63 l0_6 x15_1).f1) x22_2).f2) x29_3).f1).length c274_1)] 84 (0, 0))) ∧ Aside0 (Below w.heap.size w w'))
                case atStart => exact ⟨(x3_3), (0), eR, H', ⟨Nat.le_refl _⟩, ⟨(rf (f2 rfl) HO_3 BK275).out⟩, ⟨(bf (f2 rfl) BK269 NB269_275.out).out⟩, ⟨(bf (f2 rfl) BK271 NB271_275.out).out⟩, ⟨(bf (f2 rfl) BK273 NB273_275.out).out⟩, ⟨(s2 rfl BK275).out⟩, ⟨pb HB⟩⟩
                case round =>
                 clear H';(try clear c1);(try clear c2);(try clear p2);(try clear q2);(try clear hx2);(try clear c4);(try clear c4b0);(try clear c5);(try clear c5b0);(try clear c6);(try clear c6b0);(try clear c8);(try clear c10);(try clear c10b0);(try clear c11);(try clear c11b0);(try clear c12);(try clear c12b0);(try clear c14);(try clear c15);(try clear c17);(try clear c17b0);(try clear c18);(try clear c18b0);(try clear c19);(try clear c19b0);(try clear c21);(try clear c22);(try clear c23);(try clear hcz16_0 hcz16_1 hcz16_2);(try clear hcz24_0 hcz24_1);(try clear hcz3_0 hcz3_1 hcz3_2 hcz3_3 hcz3_4 hcz3_5 hcz3_6);(try clear hcz9_0 hcz9_1);(try clear hfz16_0 hfz16_1 hfz16_2);(try clear hfz24_0 hfz24_1);(try clear hfz3_0 hfz3_1 hfz3_2 hfz3_3 hfz3_4 hfz3_5 hfz3_6);(try clear hfz9_0 hfz9_1);(try clear hx270_0);(try clear hx270_1);(try clear hx272_0);(try clear hx272_1);(try clear hx272_2);(try clear hx274_0);(try clear hx274_1);(try clear p2);(try clear p270);(try clear p272);(try clear p274);(try clear q2);(try clear q270);(try clear q272);(try clear q274);obtain ⟨x3_4, x36_4, rfl, HA, HK4, HO_3, BK269, BK271, BK273, BK275, HB⟩ := hrel
                 cases gk with
                 | zero => exact absurd HA.out (by simp [t_list.l3])
                 | succ k4 =>
                  have H := HA.out;clear HA
                  simp only [t_list.l3] at H
                  by_cases c25 : x36_4 < (((rd_T84 ((rd_T67 ((rd_T63 l0_6 x15_1).f1) x22_2).f2) x29_3).f1).length : Int)
                  ·rw [if_pos c25] at H;have c25b0 : decide (x36_4 < (((rd_T84 ((rd_T67 ((rd_T63 l0_6 x15_1).f1) x22_2).f2) x29_3).f1).length : Int)) = true := decide_eq_true c25;clear c25
                   by_cases c26 : 0 ≤ x36_4
                   ·rw [if_pos c26] at H;have c26b0 : decide (0 ≤ x36_4) = true := decide_eq_true c26;clear c26
                    by_cases c27 : x36_4 < (((rd_T84 ((rd_T67 ((rd_T63 l0_6 x15_1).f1) x22_2).f2) x29_3).f1).length : Int)
                    ·rw [if_pos c27] at H;have c27b0 : decide (x36_4 < (((rd_T84 ((rd_T67 ((rd_T63 l0_6 x15_1).f1) x22_2).f2) x29_3).f1).length : Int)) = true := decide_eq_true c27;clear c27
                     by_cases c28 : x3_4.length < 2932031007402
                     ·rw [if_pos c28] at H;have LMc28 := am c28;clear c28;obtain ⟨y278, hy278⟩ : ∃ y_ : List (S29), y_ = (x3_4 ++ [(⟨((rd_T63 l0_6 x15_1).f0), ((rd_T67 ((rd_T63 l0_6 x15_1).f1) x22_2).f0), ((rd_T84 ((rd_T67 ((rd_T63 l0_6 x15_1).f1) x22_2).f2) x29_3).f0), (rd_T91 ((rd_T84 ((rd_T67 ((rd_T63 l0_6 x15_1).f1) x22_2).f2) x29_3).f1) x36_4).f0⟩ : S29)]) := ⟨_, rfl⟩
                      replace H : (t_list.l3 k4 y278 l0_6 (l0_6.length : Int) x15_1 ((rd_T63 l0_6 x15_1).f1) (((rd_T63 l0_6 x15_1).f1).length : Int) x22_2 ((rd_T67 ((rd_T63 l0_6 x15_1).f1) x22_2).f2) (((rd_T67 ((rd_T63 l0_6 x15_1).f1) x22_2).f2).length : Int) x29_3 ((rd_T84 ((rd_T67 ((rd_T63 l0_6 x15_1).f1) x22_2).f2) x29_3).f1) (((rd_T84 ((rd_T67 ((rd_T63 l0_6 x15_1).f1) x22_2).f2) x29_3).f1).length : Int) (wrap64 (x36_4 + 1)) ((rd_T63 l0_6 x15_1).f0) ((rd_T63 l0_6 x15_1).f1) ((rd_T67 ((rd_T63 l0_6 x15_1).f1) x22_2).f0) ((rd_T67 ((rd_T63 l0_6 x15_1).f1) x22_2).f1) ((rd_T67 ((rd_T63 l0_6 x15_1).f1) x22_2).f2) ((rd_T84 ((rd_T67 ((rd_T63 l0_6 x15_1).f1) x22_2).f2) x29_3).f0) ((rd_T84 ((rd_T67 ((rd_T63 l0_6 x15_1).f1) x22_2).f2) x29_3).f1)) = some r := by first | (rw [hy278]; with_reducible exact H) | (have H2_ := (Option.bind_some _ _).symm.trans H; rw [hy278]; with_reducible exact H2_) | (have H2_ := (Option.bind_some _ _).symm.trans H; with_reducible exact H2_) | with_reducible exact H | (rw [hy278]; exact H) | exact H
                      have Ny278 := am hy278;clear hy278;have H' := am H;clear H;have p276 : 0 ≤ (x36_4 : Int) := od;have q276 : x36_4 < (((rd_T84 ((rd_T67 ((rd_T63 l0_6 x15_1).f1) x22_2).f2) x29_3).f1).length : Int) := od;obtain ⟨ad276, e276, hx276_0, hx276_1⟩ := at_T91 HR274_1.out x36_4 p276 q276;cases e276;replace hx276_0 := hQ HB hx276_0;replace hx276_1 := hQ HB hx276_1;replace p276 := eq_true p276;replace q276 := eq_true q276
                      go_wp2_with (first | ((with_reducible refine gate_dst (N := 11) rfl ?_); refine be 11 #[.string (⟨#[]⟩ : ByteArray), .int .u64 0] 91 ?_; intro gb277 hg w29 hbox hb; replace HO_3 := rb HO_3 hb; have BK277 := am (hbox); have GW277 := gq hg HB; have GE277 := gq hg HB; replace HB := lb HB hb; obtain ⟨NB269_277, NB277_269, hnc30, hnb30⟩ := pm hg BK269; replace BK269 := kb BK269 hb; obtain ⟨NB271_277, NB277_271, hnc31, hnb31⟩ := pm hg BK271; replace BK271 := kb BK271 hb; obtain ⟨NB273_277, NB277_273, hnc32, hnb32⟩ := pm hg BK273; replace BK273 := kb BK273 hb; obtain ⟨NB275_277, NB277_275, hnc33, hnb33⟩ := pm hg BK275; replace BK275 := kb BK275 hb; clear hb hbox hg; obtain ⟨hcz34_0, hcz34_1, hfz34_0, hfz34_1⟩ := g2 BK277; have hnb35 := NB271_269.out; have hnc35 := NB269_271.out; have hnb36 := NB271_273.out; have hnc36 := NB273_271.out; have hnb37 := NB271_275.out; have hnc37 := NB275_271.out; obtain ⟨hcz38_0, hcz38_1, hfz38_0, hfz38_1⟩ := g2 BK271; have hnb39 := NB273_269.out; have hnc39 := NB269_273.out; have hnb40 := NB273_275.out; have hnc40 := NB275_273.out; obtain ⟨hcz41_0, hcz41_1, hcz41_2, hfz41_0, hfz41_1, hfz41_2⟩ := g3 BK273; have hnb42 := NB275_269.out; have hnc42 := NB269_275.out; obtain ⟨hcz43_0, hcz43_1, hfz43_0, hfz43_1⟩ := g2 BK275) | ((with_reducible refine gate_builtin (b := .append) (xs := #[.tmp 40, .tmp 50]) rfl ?_); at_builtin; refine Kd.R_append k29 (w0 := w) w.heap.size rfl (.tmp 40) (.tmp 50) 40 29 (.agg #[(.int .i64 0), (.string ⟨#[]⟩), (.int .i64 0), (.string ⟨#[]⟩)]) 48 rfl Try.underlying40 info29 rfl (by decide) (by omega) u3 x3_4 (⟨((rd_T63 l0_6 x15_1).f0), ((rd_T67 ((rd_T63 l0_6 x15_1).f1) x22_2).f0), ((rd_T84 ((rd_T67 ((rd_T63 l0_6 x15_1).f1) x22_2).f2) x29_3).f0), (rd_T91 ((rd_T84 ((rd_T67 ((rd_T63 l0_6 x15_1).f1) x22_2).f2) x29_3).f1) x36_4).f0⟩ : S29) [.int .i64 ((rd_T63 l0_6 x15_1).f0), .string ((rd_T67 ((rd_T63 l0_6 x15_1).f1) x22_2).f0), .int .i64 ((rd_T84 ((rd_T67 ((rd_T63 l0_6 x15_1).f1) x22_2).f2) x29_3).f0), .string ((rd_T91 ((rd_T84 ((rd_T67 ((rd_T63 l0_6 x15_1).f1) x22_2).f2) x29_3).f1) x36_4).f0)] (fun _ => True) (fun _ => False) rfl (by first | (go_simp; done) | (go_simp; rfl)) ?aP (fun _ hk => hk.elim) ?aF ?aO ?aB ?aS ?aL ?_; (case aP => exact k29_mkM _ _ _ (⟨((rd_T63 l0_6 x15_1).f0), ((rd_T67 ((rd_T63 l0_6 x15_1).f1) x22_2).f0), ((rd_T84 ((rd_T67 ((rd_T63 l0_6 x15_1).f1) x22_2).f2) x29_3).f0), (rd_T91 ((rd_T84 ((rd_T67 ((rd_T63 l0_6 x15_1).f1) x22_2).f2) x29_3).f1) x36_4).f0⟩ : S29)); (case aB => exact (pb HB)); (case aF => exact (fun _ _ => trivial)); (case aO => exact (pr ((rf (f2 rfl) HO_3 BK277).out))); (case aS => exact (below_size (pb HB))); (case aL => have := LMc28.out; omega); intro v279 w44 ho hb hg hat; rw [← Ny278.out] at ho; replace BK269 := am (blk_grown (g := gb269) (o := .cells #[.int .u64 a0_0, .int .u64 a0_1, .int .i64 a0_2, .int .i64 a0_3, .int .i64 a0_4, .int .i64 a0_5, .slice (some ad270) l0_6.length c0_6] 27 (0, 0)) ((bf (f2 rfl) BK269 NB269_277.out).out) hg (Kd.R_ne HO_3.out BK269.out (by decide))); replace BK271 := am (blk_grown (g := gb271) (o := .cells #[.int .i64 ((rd_T63 l0_6 x15_1).f0), .slice (some ad272) ((rd_T63 l0_6 x15_1).f1).length c270_1] 63 (0, 0)) ((bf (f2 rfl) BK271 NB271_277.out).out) hg (Kd.R_ne HO_3.out BK271.out (by decide))); replace BK273 := am (blk_grown (g := gb273) (o := .cells #[.string ((rd_T67 ((rd_T63 l0_6 x15_1).f1) x22_2).f0), .int .u64 ((rd_T67 ((rd_T63 l0_6 x15_1).f1) x22_2).f1), .slice (some ad274) ((rd_T67 ((rd_T63 l0_6 x15_1).f1) x22_2).f2).length c272_2] 67 (0, 0)) ((bf (f2 rfl) BK273 NB273_277.out).out) hg (Kd.R_ne HO_3.out BK273.out (by decide))); replace BK275 := am (blk_grown (g := gb275) (o := .cells #[.int .i64 ((rd_T84 ((rd_T67 ((rd_T63 l0_6 x15_1).f1) x22_2).f2) x29_3).f0), .slice (some ad276) ((rd_T84 ((rd_T67 ((rd_T63 l0_6 x15_1).f1) x22_2).f2) x29_3).f1).length c274_1] 84 (0, 0)) ((bf (f2 rfl) BK275 NB275_277.out).out) hg (Kd.R_ne HO_3.out BK275.out (by decide))); replace BK277 := am (blk_grown (g := gb277) (o := .cells #[.string ((rd_T91 ((rd_T84 ((rd_T67 ((rd_T63 l0_6 x15_1).f1) x22_2).f2) x29_3).f1) x36_4).f0), .int .u64 ((rd_T91 ((rd_T84 ((rd_T67 ((rd_T63 l0_6 x15_1).f1) x22_2).f2) x29_3).f1) x36_4).f1)] 91 (0, 0)) ((s2 rfl BK277).out) hg (Kd.R_ne HO_3.out BK277.out (by decide))); replace HB := am (hb); have HO280 := am (ho); clear HO_3; clear ho hb hg hat))
                      go_roundg k4
                      case measure => have := HK1.out; have := HK2.out; have := HK3.out; have := HK4.out; omega
                      case rel => exact ⟨(y278), (wrap64 (x36_4 + 1)), eR, H', ⟨by have := HK1.out; have := HK2.out; have := HK3.out; have := HK4.out; omega⟩, ⟨pr HO280.out⟩, ⟨pk BK269.out⟩, ⟨pk BK271.out⟩, ⟨pk BK273.out⟩, ⟨pk BK275.out⟩, ⟨pb HB⟩⟩
                     ·rw [if_neg c28] at H;exact absurd H (by simp)
                    ·rw [if_neg c27] at H;exact absurd H (by simp)
                   ·rw [if_neg c26] at H;exact absurd H (by simp)
                  ·rw [if_neg c25] at H;have c25b0 : decide (x36_4 < (((rd_T84 ((rd_T67 ((rd_T63 l0_6 x15_1).f1) x22_2).f2) x29_3).f1).length : Int)) = false := decide_eq_false c25;clear c25;have H' := am H;clear H
                   go_wp2
                   go_roundg k4
                   case measure => have := HK1.out; have := HK2.out; have := HK3.out; have := HK4.out; omega
                   case rel => exact ⟨(x3_4), (wrap64 (x29_3 + 1)), eR, H', ⟨by have := HK1.out; have := HK2.out; have := HK3.out; have := HK4.out; omega⟩, ⟨pr HO_3.out⟩, ⟨pk BK269.out⟩, ⟨pk BK271.out⟩, ⟨pk BK273.out⟩, ⟨pb HB⟩⟩
               ·rw [if_neg c19] at H;exact absurd H (by simp)
              ·rw [if_neg c18] at H;exact absurd H (by simp)
             ·rw [if_neg c17] at H;have c17b0 : decide (x29_3 < (((rd_T67 ((rd_T63 l0_6 x15_1).f1) x22_2).f2).length : Int)) = false := decide_eq_false c17;clear c17;have H' := am H;clear H
              go_wp2
              go_roundg k3
              case measure => have := HK1.out; have := HK2.out; have := HK3.out; omega
              case rel => exact ⟨(x3_3), (wrap64 (x22_2 + 1)), eR, H', ⟨by have := HK1.out; have := HK2.out; have := HK3.out; omega⟩, ⟨pr HO_3.out⟩, ⟨pk BK269.out⟩, ⟨pk BK271.out⟩, ⟨pb HB⟩⟩
          ·rw [if_neg c12] at H;exact absurd H (by simp)
         ·rw [if_neg c11] at H;exact absurd H (by simp)
        ·rw [if_neg c10] at H;have c10b0 : decide (x22_2 < (((rd_T63 l0_6 x15_1).f1).length : Int)) = false := decide_eq_false c10;clear c10;have H' := am H;clear H
         go_wp2
         go_roundg k2
         case measure => have := HK1.out; have := HK2.out; omega
         case rel => exact ⟨(x3_2), (wrap64 (x15_1 + 1)), eR, H', ⟨by have := HK1.out; have := HK2.out; omega⟩, ⟨pr HO_3.out⟩, ⟨pk BK269.out⟩, ⟨pb HB⟩⟩
     ·rw [if_neg c6] at H;exact absurd H (by simp)
    ·rw [if_neg c5] at H;exact absurd H (by simp)
   ·rw [if_neg c4] at H;have c4b0 : decide (x15_1 < (l0_6.length : Int)) = false := decide_eq_false c4;clear c4;obtain rfl := Option.some.inj H
    go_wp2
    go_ret
    exact ⟨_, ey (h := ⟨by refine pr ?_; exact HO_3.out, pb HB⟩)⟩
def t_List.f (k : Nat) (a0_0 : Int) (a0_1 : Int) (a0_2 : Int) (a0_3 : Int) (a0_4 : Int) (a0_5 : Int) (l0_6 : List (S63)) : Option ((List (S29))) := (t_Right.f k a0_0 a0_1 a0_2 a0_3 a0_4 a0_5 l0_6).bind fun t282 => (if t282 = true then ((t_list.f k a0_0 a0_1 a0_2 a0_3 a0_4 a0_5 l0_6).bind fun t283 => (some t283)) else (some ([] : List (S29))))
theorem t_List.mono : ∀ a0 a1 a2 a3 a4 a5 a6 k, LeO (t_List.f k a0 a1 a2 a3 a4 a5 a6) (t_List.f (k + 1) a0 a1 a2 a3 a4 a5 a6) := by
 intro a0 a1 a2 a3 a4 a5 a6 k
 unfold t_List.f
 repeat' first
   | (with_reducible exact t_Right.mono _ _ _ _ _ _ _ _)
   | (with_reducible exact t_list.mono _ _ _ _ _ _ _ _)
   | (with_reducible exact LeO.refl _)
   | (with_reducible exact LeO.none _)
   | (with_reducible refine LeO.ite ?_ ?_)
   | (with_reducible refine LeO.bind ?_ (fun _ => ?_))
set_option maxHeartbeats 8000000 in
set_option maxRecDepth 100000 in
theorem t_List.calls (k : Nat) (a0_0 : Int) (a0_1 : Int) (a0_2 : Int) (a0_3 : Int) (a0_4 : Int) (a0_5 : Int) (A0_6 : Option Addr) (c0_6 : Nat) (l0_6 : List (S63)) (r : List (S29)) (w : World) (hr0_6 : Kd.C k63 w A0_6 l0_6.length l0_6) (hc0_6 : l0_6.length ≤ c0_6) (h : t_List.f k a0_0 a0_1 a0_2 a0_3 a0_4 a0_5 l0_6 = some r) :
  Calls Try.prog 14 #[.agg #[.int .u64 a0_0, .int .u64 a0_1, .int .i64 a0_2, .int .i64 a0_3, .int .i64 a0_4, .int .i64 a0_5, .slice A0_6 l0_6.length c0_6]] w fun e w' => ∃ v0_ : Value, e = .returned (v0_) ∧ Kd.R k29 29 w' w.heap.size (fun _ => True) v0_ r ∧ Below w.heap.size w w' := by
 have hu27 := Try.underlying27;have HR0_6 := am hr0_6;have HC0_6 := am hc0_6;clear hr0_6 hc0_6;have HB := am (Below.refl w.heap.size w);have H : ((t_Right.f k a0_0 a0_1 a0_2 a0_3 a0_4 a0_5 l0_6).bind fun t282 => (if t282 = true then ((t_list.f k a0_0 a0_1 a0_2 a0_3 a0_4 a0_5 l0_6).bind fun t283 => (some t283)) else (some ([] : List (S29))))) = some r := h;clear h;replace H := Option.bind_eq_some_iff.mp H;obtain ⟨t282, A20, H⟩ := H
 try dsimp only at H
 have A2 := am A20;clear A20
 by_cases c3 : t282 = true
 rotate_left
 ·replace c3 := Bool.eq_false_iff.mpr c3;subst c3
  have H1 : (some ([] : List (S29))) = some r := by rw [if_neg (show ¬ (false = true) by decide)] at H; exact H
  clear H;have H := H1;clear H1;obtain rfl := Option.some.inj H
  go_enter Try.func14, Try.ntmps14
  go_wp2_with (first | ((with_reducible refine gate_dst (N := 1) rfl ?_); refine be 1 #[.int .u64 a0_0, .int .u64 a0_1, .int .i64 a0_2, .int .i64 a0_3, .int .i64 a0_4, .int .i64 a0_5, .slice A0_6 l0_6.length c0_6] 27 ?_; intro gb281 hg w10 hbox hb; have BK281 := am (hbox); have GW281 := gq hg HB; have GE281 := gq hg HB; replace HB := lb HB hb; clear hb hbox hg; obtain ⟨hcz11_0, hcz11_1, hcz11_2, hcz11_3, hcz11_4, hcz11_5, hcz11_6, hfz11_0, hfz11_1, hfz11_2, hfz11_3, hfz11_4, hfz11_5, hfz11_6⟩ := g7 BK281) | ((with_reducible refine gate_callee (f := 17) rfl ?_); refine gl (some 4) Try.func17 #[.agg #[.int .u64 a0_0, .int .u64 a0_1, .int .i64 a0_2, .int .i64 a0_3, .int .i64 a0_4, .int .i64 a0_5, .slice A0_6 l0_6.length c0_6]] ?_; (with_reducible refine (t_Right.calls k a0_0 a0_1 a0_2 a0_3 a0_4 a0_5 _ _ l0_6 false _ ?side1 ?side2 A2.out).mono ?_); (case side1 => exact pc (Kd.C_below HR0_6.out HB.out)); (case side2 => exact HC0_6.out); rintro e w12 ⟨rfl, hb⟩; refine ⟨_, rfl, ?_⟩; replace BK281 := kb BK281 hb; replace HB := lb HB hb; (try clear hb); (try clear hb2); (try clear hk); (try clear hi)))
  go_ret
  exact ⟨_, ey (h := ⟨by first | exact Kd.R_nil _ _ _ _ _ | exact Kd.N_nil _ _ _ _ _ | exact Kd.V_nil _ _ _ _ _ | exact Kd.Q_nil _ _ _ _ _ | exact Kd.S_nil _ _ _ _ _, pb HB⟩)⟩
 subst c3
 have H1 : ((t_list.f k a0_0 a0_1 a0_2 a0_3 a0_4 a0_5 l0_6).bind fun t283 => (some t283)) = some r := by rw [if_pos rfl] at H; exact H
 clear H;have H := H1;clear H1;replace H := Option.bind_eq_some_iff.mp H;obtain ⟨t283, A40, H⟩ := H
 try dsimp only at H
 have A4 := am A40;clear A40;obtain rfl := Option.some.inj H
 go_enter Try.func14, Try.ntmps14
 go_wp2_with (first | ((with_reducible refine gate_dst (N := 1) rfl ?_); refine be 1 #[.int .u64 a0_0, .int .u64 a0_1, .int .i64 a0_2, .int .i64 a0_3, .int .i64 a0_4, .int .i64 a0_5, .slice A0_6 l0_6.length c0_6] 27 ?_; intro gb281 hg w5 hbox hb; have BK281 := am (hbox); have GW281 := gq hg HB; have GE281 := gq hg HB; replace HB := lb HB hb; clear hb hbox hg; obtain ⟨hcz6_0, hcz6_1, hcz6_2, hcz6_3, hcz6_4, hcz6_5, hcz6_6, hfz6_0, hfz6_1, hfz6_2, hfz6_3, hfz6_4, hfz6_5, hfz6_6⟩ := g7 BK281) | ((with_reducible refine gate_callee (f := 17) rfl ?_); refine gl (some 4) Try.func17 #[.agg #[.int .u64 a0_0, .int .u64 a0_1, .int .i64 a0_2, .int .i64 a0_3, .int .i64 a0_4, .int .i64 a0_5, .slice A0_6 l0_6.length c0_6]] ?_; (with_reducible refine (t_Right.calls k a0_0 a0_1 a0_2 a0_3 a0_4 a0_5 _ _ l0_6 true _ ?side1 ?side2 A2.out).mono ?_); (case side1 => exact pc (Kd.C_below HR0_6.out HB.out)); (case side2 => exact HC0_6.out); rintro e w7 ⟨rfl, hb⟩; refine ⟨_, rfl, ?_⟩; replace BK281 := kb BK281 hb; replace HB := lb HB hb; (try clear hb); (try clear hb2); (try clear hk); (try clear hi); obtain ⟨hcz8_0, hcz8_1, hcz8_2, hcz8_3, hcz8_4, hcz8_5, hcz8_6, hfz8_0, hfz8_1, hfz8_2, hfz8_3, hfz8_4, hfz8_5, hfz8_6⟩ := g7 BK281) | ((with_reducible refine gate_callee (f := 28) rfl ?_); refine gl (some 7) Try.func28 #[.agg #[.int .u64 a0_0, .int .u64 a0_1, .int .i64 a0_2, .int .i64 a0_3, .int .i64 a0_4, .int .i64 a0_5, .slice A0_6 l0_6.length c0_6]] ?_; (with_reducible refine (t_list.calls k a0_0 a0_1 a0_2 a0_3 a0_4 a0_5 _ _ l0_6 t283 _ ?side1 ?side2 A4.out).mono ?_); (case side1 => exact pc (Kd.C_below HR0_6.out HB.out)); (case side2 => exact HC0_6.out); rintro e w9 ⟨v284, rfl, ho0, hb⟩; refine ⟨_, rfl, ?_⟩; have HO285 := am (Kd.R_lower ho0 (below_size (pb HB))); replace BK281 := kb BK281 hb; replace HB := lb HB hb; (try clear hb); (try clear hb2); (try clear hk); (try clear hi); (try clear ho0)))
 go_ret
 exact ⟨_, ey (h := ⟨by refine pr ?_; exact HO285.out, pb HB⟩)⟩
end Go.Proofs.Ytagcobdpojeiiaa.H
