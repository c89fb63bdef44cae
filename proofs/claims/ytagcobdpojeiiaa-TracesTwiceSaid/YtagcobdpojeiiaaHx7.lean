import Derived.Test.YtagcobdpojeiiaaHx0
import Derived.Test.YtagcobdpojeiiaaHx6
namespace Go.Proofs.Ytagcobdpojeiiaa.H
open Go.RowKit Go.Proofs.YtagcobdpojeiiaaW.PrintWords Go.Proofs.YtagcobdpojeiiaaW.PrintLast Go.Proofs.YtagcobdpojeiiaaW.PrintMore Go.Proofs.YtagcobdpojeiiaaW.Sq
attribute [local go_sem] max2_int min2_int max_two min_two max_three min_three max_four min_four
set_option linter.unusedVariables false
set_option linter.unusedSimpArgs false

mutual
def l22_Ref.l0 : Nat → List (S73) → List (S63) → Int → Int → Int → Int → Int → Int → Int → Int → List (S63) → Option (Int × Int × Int × Int × Int × Int × (List (S73)))
 | 0, _, _, _, _, _, _, _, _, _, _, _ => none
 | k + 1, x3, x10, x11, x12, x198000, x198001, x198002, x198003, x198004, x198005, x198006 => if x12 < x11 then (if 0 ≤ x12 then (if x12 < (x10.length : Int) then (l22_Ref.l1 k x3 ([] : List (S71)) x10 x11 x12 ((rd_T63 x10 x12).f1) (((rd_T63 x10 x12).f1).length : Int) 0 x198000 x198001 x198002 x198003 x198004 x198005 x198006 ((rd_T63 x10 x12).f0) ((rd_T63 x10 x12).f1)) else (none)) else (none)) else (some (x198000, x198001, x198002, x198003, x198004, x198005, x3))
def l22_Ref.l1 : Nat → List (S73) → List (S71) → List (S63) → Int → Int → List (S67) → Int → Int → Int → Int → Int → Int → Int → Int → List (S63) → Int → List (S67) → Option (Int × Int × Int × Int × Int × Int × (List (S73)))
 | 0, _, _, _, _, _, _, _, _, _, _, _, _, _, _, _, _, _ => none
 | k + 1, x3, x6, x10, x11, x12, x17, x18, x19, x198000, x198001, x198002, x198003, x198004, x198005, x198006, x201000, x201001 => if x19 < x18 then (if 0 ≤ x19 then (if x19 < (x17.length : Int) then ((l22_buckets.f k ((rd_T67 x17 x19).f2)).bind fun t203 => (if x6.length < 2932031007402 then (l22_Ref.l1 k x3 (x6 ++ [(⟨(rd_T67 x17 x19).f0, (rd_T67 x17 x19).f1, t203⟩ : S71)]) x10 x11 x12 x17 x18 (wrap64 (x19 + 1)) x198000 x198001 x198002 x198003 x198004 x198005 x198006 x201000 x201001) else (none))) else (none)) else (none)) else (if x3.length < 4398046511104 then (l22_Ref.l0 k (x3 ++ [(⟨x201000, x6⟩ : S73)]) x10 x11 (wrap64 (x12 + 1)) x198000 x198001 x198002 x198003 x198004 x198005 x198006) else (none))
end
def l22_Ref.f (k : Nat) (a0_0 : Int) (a0_1 : Int) (a0_2 : Int) (a0_3 : Int) (a0_4 : Int) (a0_5 : Int) (l0_6 : List (S63)) : Option (Int × Int × Int × Int × Int × Int × (List (S73))) := l22_Ref.l0 k ([] : List (S73)) l0_6 (l0_6.length : Int) 0 a0_0 a0_1 a0_2 a0_3 a0_4 a0_5 l0_6
theorem l22_Ref.mono_l : ∀ k, (∀ y0 y1 y2 y3 y4 y5 y6 y7 y8 y9 y10, LeO (l22_Ref.l0 k y0 y1 y2 y3 y4 y5 y6 y7 y8 y9 y10) (l22_Ref.l0 (k + 1) y0 y1 y2 y3 y4 y5 y6 y7 y8 y9 y10)) ∧ (∀ y0 y1 y2 y3 y4 y5 y6 y7 y8 y9 y10 y11 y12 y13 y14 y15 y16, LeO (l22_Ref.l1 k y0 y1 y2 y3 y4 y5 y6 y7 y8 y9 y10 y11 y12 y13 y14 y15 y16) (l22_Ref.l1 (k + 1) y0 y1 y2 y3 y4 y5 y6 y7 y8 y9 y10 y11 y12 y13 y14 y15 y16))
 | 0 => ⟨fun _ _ _ _ _ _ _ _ _ _ _ r h => by simp [l22_Ref.l0] at h, fun _ _ _ _ _ _ _ _ _ _ _ _ _ _ _ _ _ r h => by simp [l22_Ref.l1] at h⟩
 | k + 1 => by
  obtain ⟨ih0, ih1⟩ := l22_Ref.mono_l k
  refine ⟨?_, ?_⟩
  ·intro y0 y1 y2 y3 y4 y5 y6 y7 y8 y9 y10
   unfold l22_Ref.l0
   repeat' first
   | (with_reducible exact ih0 _ _ _ _ _ _ _ _ _ _ _)
   | (with_reducible exact ih1 _ _ _ _ _ _ _ _ _ _ _ _ _ _ _ _ _)
   | (with_reducible exact l22_buckets.mono _ _)
   | (with_reducible exact LeO.refl _)
   | (with_reducible exact LeO.none _)
   | (with_reducible refine LeO.ite ?_ ?_)
   | (with_reducible refine LeO.bind ?_ (fun _ => ?_))
  ·intro y0 y1 y2 y3 y4 y5 y6 y7 y8 y9 y10 y11 y12 y13 y14 y15 y16
   unfold l22_Ref.l1
   repeat' first
   | (with_reducible exact ih0 _ _ _ _ _ _ _ _ _ _ _)
   | (with_reducible exact ih1 _ _ _ _ _ _ _ _ _ _ _ _ _ _ _ _ _)
   | (with_reducible exact l22_buckets.mono _ _)
   | (with_reducible exact LeO.refl _)
   | (with_reducible exact LeO.none _)
   | (with_reducible refine LeO.ite ?_ ?_)
   | (with_reducible refine LeO.bind ?_ (fun _ => ?_))
theorem l22_Ref.mono : ∀ a0 a1 a2 a3 a4 a5 a6 k, LeO (l22_Ref.f k a0 a1 a2 a3 a4 a5 a6) (l22_Ref.f (k + 1) a0 a1 a2 a3 a4 a5 a6) := by
 intro a0 a1 a2 a3 a4 a5 a6 k
 obtain ⟨ih0, ih1⟩ := l22_Ref.mono_l k
 unfold l22_Ref.f
 repeat' first
   | (with_reducible exact ih0 _ _ _ _ _ _ _ _ _ _ _)
   | (with_reducible exact ih1 _ _ _ _ _ _ _ _ _ _ _ _ _ _ _ _ _)
   | (with_reducible exact l22_buckets.mono _ _)
   | (with_reducible exact LeO.refl _)
   | (with_reducible exact LeO.none _)
   | (with_reducible refine LeO.ite ?_ ?_)
   | (with_reducible refine LeO.bind ?_ (fun _ => ?_))
def l22_Ref.T9 : Bool × List (List Nat × List Nat) := (true, [([], []), ([], []), ([1], [1]), ([], []), ([3], [3]), ([], []), ([5], [5]), ([6], [6]), ([2, 4, 7], [2, 4, 7]), ([8], [8]), ([0, 9, 7], [0, 9]), ([10, 10, 0, 1, 2, 3, 4, 5, 6, 7, 8, 9, 10], [0, 10])])
def l22_Ref.B9 : List Nat := [0, 0, 2, 0, 8, 0, 32, 96, 254, 510, 1023, 2047]
theorem l22_Ref.tab9 : rtab .any (opsOf Try.f9 9) = l22_Ref.T9 := by kernel_rfl
theorem l22_Ref.bits9 : waitsOk l22_Ref.T9.2 l22_Ref.B9 = true := by kernel_rfl
set_option maxHeartbeats 8000000 in
set_option maxRecDepth 100000 in
theorem l22_Ref.calls (k : Nat) (a0_0 : Int) (a0_1 : Int) (a0_2 : Int) (a0_3 : Int) (a0_4 : Int) (a0_5 : Int) (A0_6 : Option Addr) (c0_6 : Nat) (l0_6 : List (S63)) (r1 : Int) (r2 : Int) (r3 : Int) (r4 : Int) (r5 : Int) (r6 : Int) (r7 : List (S73)) (w : World) (hr0_6 : Kd.C k63 w A0_6 l0_6.length l0_6) (hc0_6 : l0_6.length ≤ c0_6) (h : l22_Ref.f k a0_0 a0_1 a0_2 a0_3 a0_4 a0_5 l0_6 = some (r1, r2, r3, r4, r5, r6, r7)) :
  Calls Try.prog 9 #[.agg #[.int .u64 a0_0, .int .u64 a0_1, .int .i64 a0_2, .int .i64 a0_3, .int .i64 a0_4, .int .i64 a0_5, .slice A0_6 l0_6.length c0_6]] w fun e w' => ∃ v6_ : Value, e = .returned (.agg #[.int .u64 r1, .int .u64 r2, .int .i64 r3, .int .i64 r4, .int .i64 r5, .int .i64 r6, v6_]) ∧ Kd.R k73 73 w' w.heap.size (fun _ => True) v6_ r7 ∧ Below w.heap.size w w' := by
 have hu27 := Try.underlying27;have hu32 := Try.underlying32;have hu63 := Try.underlying63;have hu67 := Try.underlying67;have hu71 := Try.underlying71;have hu73 := Try.underlying73;have hu24 := Try.underlying24;have HR0_6 := am hr0_6;have HC0_6 := am hc0_6;clear hr0_6 hc0_6;have HB := am (Below.refl w.heap.size w);have H : (l22_Ref.l0 k ([] : List (S73)) l0_6 (l0_6.length : Int) 0 a0_0 a0_1 a0_2 a0_3 a0_4 a0_5 l0_6) = some (r1, r2, r3, r4, r5, r6, r7) := h;clear h;have H' := am H;clear H
 go_enter Try.func9, Try.ntmps9
 go_wp2_with (first | ((with_reducible refine gate_dst (N := 1) rfl ?_); refine be 1 #[.int .u64 a0_0, .int .u64 a0_1, .int .i64 a0_2, .int .i64 a0_3, .int .i64 a0_4, .int .i64 a0_5, .slice A0_6 l0_6.length c0_6] 27 ?_; intro gb197 hg w2 hbox hb; have BK197 := am (hbox); have GW197 := gq hg HB; have GE197 := gq hg HB; replace HB := lb HB hb; clear hb hbox hg) | ((with_reducible refine gate_dst (N := 2) rfl ?_); refine be 2 #[.int .u64 0, .int .u64 0, .int .i64 0, .int .i64 0, .int .i64 0, .int .i64 0, .slice none 0 0] 32 ?_; intro gb198 hg w3 hbox hb; have BK198 := am (hbox); have GW198 := gq hg HB; have GE198 := gq hg HB; replace HB := lb HB hb; obtain ⟨NB197_198, NB198_197, hnb4, hnc4⟩ := pm hg BK197; replace BK197 := kb BK197 hb; clear hb hbox hg; obtain ⟨hcz5_0, hcz5_1, hcz5_2, hcz5_3, hcz5_4, hcz5_5, hcz5_6, hfz5_0, hfz5_1, hfz5_2, hfz5_3, hfz5_4, hfz5_5, hfz5_6⟩ := g7 BK197))
 go_loopg [3, 12] k (fun kq v3 v12 w' => ∃ (x3_1 : List (S73)) (x12_1 : Int), v12 = .int .i64 x12_1 ∧ Aside0 (l22_Ref.l0 kq x3_1 l0_6 (l0_6.length : Int) x12_1 a0_0 a0_1 a0_2 a0_3 a0_4 a0_5 l0_6 = some (r1, r2, r3, r4, r5, r6, r7)) ∧ Aside0 (kq ≤ k) ∧ Aside0 (Kd.R k73 73 w' w.heap.size (fun _ => True) v3 x3_1) ∧ Aside0 (w'.heap[gb197]? = some (.cells #[.int .u64 a0_0, .int .u64 a0_1, .int .i64 a0_2, .int .i64 a0_3, .int .i64 a0_4, .int .i64 a0_5, (.slice A0_6 l0_6.length c0_6)] 27 (0, 0))) ∧ Aside0 (w'.heap[gb198]? = some (.cells #[.int .u64 0, .int .u64 0, .int .i64 0, .int .i64 0, .int .i64 0, .int .i64 0, (.slice none 0 0)] 32 (0, 0))) ∧ Aside0 (Below w.heap.size w w'))
 case atStart => exact ⟨(([] : List (S73))), (0), eR, H', ⟨Nat.le_refl _⟩, ⟨by first | exact Kd.R_nil _ _ _ _ _ | exact Kd.N_nil _ _ _ _ _ | exact Kd.V_nil _ _ _ _ _ | exact Kd.Q_nil _ _ _ _ _ | exact Kd.S_nil _ _ _ _ _⟩, ⟨pk BK197.out⟩, ⟨pk BK198.out⟩, ⟨pb HB⟩⟩
 case round =>
  clear H';(try clear p2);(try clear c4);(try clear hcz5_0 hcz5_1 hcz5_2 hcz5_3 hcz5_4 hcz5_5 hcz5_6 hfz5_0 hfz5_1 hfz5_2 hfz5_3 hfz5_4 hfz5_5 hfz5_6);obtain ⟨x3_1, x12_1, rfl, HA, HK1, HO_3, BK197, BK198, HB⟩ := hrel
  cases gk with
  | zero => exact absurd HA.out (by simp [l22_Ref.l0])
  | succ k1 =>
   have H := HA.out;clear HA
   simp only [l22_Ref.l0] at H
   by_cases c6 : x12_1 < (l0_6.length : Int)
   ·rw [if_pos c6] at H;have c6b0 : decide (x12_1 < (l0_6.length : Int)) = true := decide_eq_true c6;clear c6
    by_cases c7 : 0 ≤ x12_1
    ·rw [if_pos c7] at H;have c7b0 : decide (0 ≤ x12_1) = true := decide_eq_true c7;clear c7
     by_cases c8 : x12_1 < (l0_6.length : Int)
     ·rw [if_pos c8] at H;have c8b0 : decide (x12_1 < (l0_6.length : Int)) = true := decide_eq_true c8;clear c8;have H' := am H;clear H;have p199 : 0 ≤ (x12_1 : Int) := od;have q199 : x12_1 < (l0_6.length : Int) := od;obtain ⟨ad199, A199_1, c199_1, e199, hx199_0, hx199_1, hl199_1, hi199_1⟩ := at_T63 HR0_6.out x12_1 p199 q199;cases e199;replace hx199_0 := hQ HB hx199_0;replace hx199_1 := hQ HB hx199_1;have HR199_1 := am hi199_1;have HC199_1 := am hl199_1;clear hi199_1 hl199_1;replace p199 := eq_true p199;replace q199 := eq_true q199
      go_wp2_with (first | ((with_reducible refine gate_dst (N := 5) rfl ?_); refine be 5 #[.int .i64 0, .slice none 0 0] 63 ?_; intro gb200 hg w9 hbox hb; replace HO_3 := rb HO_3 hb; have BK200 := am (hbox); have GW200 := gq hg HB; have GE200 := gq hg HB; replace HB := lb HB hb; obtain ⟨NB197_200, NB200_197, hnc10, hnb10⟩ := pm hg BK197; replace BK197 := kb BK197 hb; obtain ⟨NB198_200, NB200_198, hnc11, hnb11⟩ := pm hg BK198; replace BK198 := kb BK198 hb; clear hb hbox hg; obtain ⟨hcz12_0, hcz12_1, hfz12_0, hfz12_1⟩ := g2 BK200))
      go_loopg [6, 19] k1 (fun kq v6 v19 w' => ∃ (x6_2 : List (S71)) (x19_2 : Int), v19 = .int .i64 x19_2 ∧ Aside0 (l22_Ref.l1 kq x3_1 x6_2 l0_6 (l0_6.length : Int) x12_1 ((rd_T63 l0_6 x12_1).f1) (((rd_T63 l0_6 x12_1).f1).length : Int) x19_2 a0_0 a0_1 a0_2 a0_3 a0_4 a0_5 l0_6 ((rd_T63 l0_6 x12_1).f0) ((rd_T63 l0_6 x12_1).f1) = some (r1, r2, r3, r4, r5, r6, r7)) ∧ Aside0 (kq ≤ k1) ∧ Aside0 (Kd.R k73 73 w' w.heap.size (fun k_ => some k_ ≠ (v6 : Value).ownBlock) u3 x3_1) ∧ Aside0 (Kd.R k71 71 w' w.heap.size (fun _ => True) v6 x6_2) ∧ Aside0 (w'.heap[gb197]? = some (.cells #[.int .u64 a0_0, .int .u64 a0_1, .int .i64 a0_2, .int .i64 a0_3, .int .i64 a0_4, .int .i64 a0_5, (.slice (some ad199) l0_6.length c0_6)] 27 (0, 0))) ∧ Aside0 (w'.heap[gb198]? = some (.cells #[.int .u64 0, .int .u64 0, .int .i64 0, .int .i64 0, .int .i64 0, .int .i64 0, (.slice none 0 0)] 32 (0, 0))) ∧ Aside0 (w'.heap[gb200]? = some (.cells #[.int .i64 ((rd_T63 l0_6 x12_1).f0), (.slice A199_1 ((rd_T63 l0_6 x12_1).f1).length c199_1)] 63 (0, 0))) ∧ Aside0 (Below w.heap.size w w'))
      case atStart => exact ⟨(([] : List (S71))), (0), eR, H', ⟨Nat.le_refl _⟩, ⟨by refine pr ?_; exact Kd.R_mono (rf (f2 rfl) HO_3 BK200).out (fun _ hk => (by simp [Value.ownBlock]))⟩, ⟨by first | exact Kd.R_nil _ _ _ _ _ | exact Kd.N_nil _ _ _ _ _ | exact Kd.V_nil _ _ _ _ _ | exact Kd.Q_nil _ _ _ _ _ | exact Kd.S_nil _ _ _ _ _⟩, ⟨(bf (f2 rfl) BK197 NB197_200.out).out⟩, ⟨(bf (f2 rfl) BK198 NB198_200.out).out⟩, ⟨(s2 rfl BK200).out⟩, ⟨pb HB⟩⟩
      case round =>
       clear H';(try clear c1);(try clear p1);(try clear q1);(try clear hx1);(try clear p2);(try clear c4);(try clear c6);(try clear c6b0);(try clear c7);(try clear c7b0);(try clear c8);(try clear c8b0);(try clear c9);(try clear c10);(try clear c11);(try clear hcz12_0 hcz12_1);(try clear hcz5_0 hcz5_1 hcz5_2 hcz5_3 hcz5_4 hcz5_5 hcz5_6);(try clear hfz12_0 hfz12_1);(try clear hfz5_0 hfz5_1 hfz5_2 hfz5_3 hfz5_4 hfz5_5 hfz5_6);(try clear hx199_0);(try clear hx199_1);(try clear p199);(try clear p2);(try clear q199);obtain ⟨x6_2, x19_2, rfl, HA, HK2, HO_3, HO_6, BK197, BK198, BK200, HB⟩ := hrel
       cases gk with
       | zero => exact absurd HA.out (by simp [l22_Ref.l1])
       | succ k2 =>
        have H := HA.out;clear HA
        simp only [l22_Ref.l1] at H
        by_cases c13 : x19_2 < (((rd_T63 l0_6 x12_1).f1).length : Int)
        ·rw [if_pos c13] at H;have c13b0 : decide (x19_2 < (((rd_T63 l0_6 x12_1).f1).length : Int)) = true := decide_eq_true c13;clear c13
         by_cases c14 : 0 ≤ x19_2
         ·rw [if_pos c14] at H;have c14b0 : decide (0 ≤ x19_2) = true := decide_eq_true c14;clear c14
          by_cases c15 : x19_2 < (((rd_T63 l0_6 x12_1).f1).length : Int)
          ·rw [if_pos c15] at H;have c15b0 : decide (x19_2 < (((rd_T63 l0_6 x12_1).f1).length : Int)) = true := decide_eq_true c15;clear c15;replace H := Option.bind_eq_some_iff.mp H;obtain ⟨t203, A160, H⟩ := H
           try dsimp only at H
           have A16 := am A160;clear A160
           by_cases c17 : x6_2.length < 2932031007402
           ·rw [if_pos c17] at H;have LMc17 := am c17;clear c17;obtain ⟨y206, hy206⟩ : ∃ y_ : List (S71), y_ = (x6_2 ++ [(⟨(rd_T67 ((rd_T63 l0_6 x12_1).f1) x19_2).f0, (rd_T67 ((rd_T63 l0_6 x12_1).f1) x19_2).f1, t203⟩ : S71)]) := ⟨_, rfl⟩
            replace H : (l22_Ref.l1 k2 x3_1 y206 l0_6 (l0_6.length : Int) x12_1 ((rd_T63 l0_6 x12_1).f1) (((rd_T63 l0_6 x12_1).f1).length : Int) (wrap64 (x19_2 + 1)) a0_0 a0_1 a0_2 a0_3 a0_4 a0_5 l0_6 ((rd_T63 l0_6 x12_1).f0) ((rd_T63 l0_6 x12_1).f1)) = some (r1, r2, r3, r4, r5, r6, r7) := by first | (rw [hy206]; with_reducible exact H) | (have H2_ := (Option.bind_some _ _).symm.trans H; rw [hy206]; with_reducible exact H2_) | (have H2_ := (Option.bind_some _ _).symm.trans H; with_reducible exact H2_) | with_reducible exact H | (rw [hy206]; exact H) | exact H
            have Ny206 := am hy206;clear hy206;have H' := am H;clear H;have p201 : 0 ≤ (x19_2 : Int) := od;have q201 : x19_2 < (((rd_T63 l0_6 x12_1).f1).length : Int) := od;obtain ⟨ad201, A201_2, c201_2, e201, hx201_0, hx201_1, hx201_2, hl201_2, hi201_2⟩ := at_T67 HR199_1.out x19_2 p201 q201;cases e201;replace hx201_0 := hQ HB hx201_0;replace hx201_1 := hQ HB hx201_1;replace hx201_2 := hQ HB hx201_2;have HR201_2 := am hi201_2;have HC201_2 := am hl201_2;clear hi201_2 hl201_2;replace p201 := eq_true p201;replace q201 := eq_true q201
            try go_wp2_with (first | ((with_reducible refine gate_dst (N := 8) rfl ?_); refine be 8 #[.string (⟨#[]⟩ : ByteArray), .int .u64 0, .slice none 0 0] 67 ?_; intro gb202 hg w18 hbox hb; replace HO_3 := rb HO_3 hb; replace HO_6 := rb HO_6 hb; have BK202 := am (hbox); have GW202 := gq hg HB; have GE202 := gq hg HB; replace HB := lb HB hb; obtain ⟨NB197_202, NB202_197, hnc19, hnb19⟩ := pm hg BK197; replace BK197 := kb BK197 hb; obtain ⟨NB198_202, NB202_198, hnc20, hnb20⟩ := pm hg BK198; replace BK198 := kb BK198 hb; obtain ⟨NB200_202, NB202_200, hnc21, hnb21⟩ := pm hg BK200; replace BK200 := kb BK200 hb; clear hb hbox hg; obtain ⟨hcz22_0, hcz22_1, hcz22_2, hfz22_0, hfz22_1, hfz22_2⟩ := g3 BK202))
            generalize hx1_ : ((w18.setCell ⟨gb202, 0, none⟩ (.string ((rd_T67 ((rd_T63 l0_6 x12_1).f1) x19_2).f0))).setCell ⟨gb202, 1, none⟩ (.int .u64 ((rd_T67 ((rd_T63 l0_6 x12_1).f1) x19_2).f1))).setCell ⟨gb202, 2, none⟩ (.slice A201_2 ((rd_T67 ((rd_T63 l0_6 x12_1).f1) x19_2).f2).length c201_2) = w23;replace hx1_ := hx1_.symm
            replace HO_3 := rf (f3 hx1_) HO_3 BK202;replace HO_6 := rf (f3 hx1_) HO_6 BK202;replace BK197 := bf (f3 hx1_) BK197 NB197_202.out;replace BK198 := bf (f3 hx1_) BK198 NB198_202.out;replace BK200 := bf (f3 hx1_) BK200 NB200_202.out;replace HB := lf (f3 hx1_) HB;replace BK202 := s3 hx1_ BK202
            clear hx1_
            replace HO_3 := am (Kd.R_drew HO_3.out);replace HO_6 := am (Kd.R_drew HO_6.out);replace BK197 := am (blk_drew BK197.out);replace BK198 := am (blk_drew BK198.out);replace BK200 := am (blk_drew BK200.out);replace BK202 := am (blk_drew BK202.out);replace HB := am (below_drew1 HB.out)
            refine start_ (n := 12) (S := fun w' => w'.cell? ⟨gb202, 0, none⟩ = some (.string ((rd_T67 ((rd_T63 l0_6 x12_1).f1) x19_2).f0)) ∧ w'.cell? ⟨gb202, 1, none⟩ = some (.int .u64 ((rd_T67 ((rd_T63 l0_6 x12_1).f1) x19_2).f1)) ∧ w'.cell? ⟨gb202, 2, none⟩ = some (.slice A201_2 ((rd_T67 ((rd_T63 l0_6 x12_1).f1) x19_2).f2).length c201_2)) (ds := []) #[false, false, false, false, false, false, false, false, false, false, false, false] (by kernel_rfl) rfl rfl (Q3 BK202) (fun hHeld => ?_); refine with_tabW l22_Ref.tab9 l22_Ref.bits9 (fun HT_ HW_ => ?_)
            generalize w23.drew = w24 at HO_3 HO_6 BK197 BK198 BK200 BK202 HB hHeld ⊢
            refine pu 0 ?_;refine pu 1 ?_;refine pu 3 ?_;refine pu 5 ?_;refine ta 2 hHeld ?_;refine ta 4 hHeld ?_;refine ta 6 hHeld ?_
            refine on1 7 (fun K hK => ?_)
            refine gs Try.func24 #[.slice A201_2 ((rd_T67 ((rd_T63 l0_6 x12_1).f1) x19_2).f2).length c201_2] ?_
            with_reducible refine (l22_buckets.calls k2 _ _ ((rd_T67 ((rd_T63 l0_6 x12_1).f1) x19_2).f2) t203 _ ?side1 ?side2 A16.out).mono ?_
            (case side1 => exact pc (Kd.C_below HR201_2.out HB.out))
            (case side2 => exact HC201_2.out)
            rintro e w25 ⟨v204, rfl, ho0, hb⟩
            refine ⟨_, rfl, ?_⟩
            replace HO_3 := am (Kd.R_elder' (pr HO_3.out) (Kd.S_base ho0) hb);replace HO_6 := am (Kd.R_elder' (pr HO_6.out) (Kd.S_base ho0) hb);have HO205 := am (Kd.S_lower ho0 (below_size (pb HB)));replace BK197 := kb BK197 hb;replace BK198 := kb BK198 hb;replace BK200 := kb BK200 hb;replace BK202 := kb BK202 hb;replace HB := lb HB hb
            (try clear hb)
            (try clear hb2)
            (try clear hk)
            (try clear hi)
            (try clear ho0)
            obtain ⟨Ao26, co26, eo26⟩ := Kd.S_slice HO205.out
            (first | subst eo26 | (injection eo26 with f1_ f2_ f3_; have f4_ := f1_.symm; have f5_ := f3_.symm; clear f1_ f2_ f3_; subst f4_; subst f5_))
            refine hK.out _ _ (Q3 BK202) (fun hHeld => ?_)
            clear hK K;refine nm ?_;refine pu 8 ?_
            refine on1 9 (fun K hK => ?_)
            refine value_ (w1 := ?_) (v := ?_) (by rfl) rfl ?_ ?_
            rotate_left 2
            ·go_simp
             constructor
             ·rfl
             ·rfl
            refine hK.out _ _ ⟨(blk_cell (blk_alloc BK202.out _) 0).trans rfl, (blk_cell (blk_alloc BK202.out _) 1).trans rfl, (blk_cell (blk_alloc BK202.out _) 2).trans rfl⟩ (fun hHeld => ?_)
            clear hK K;refine nm ?_
            refine on1 10 (fun K hK => ?_)
            refine Kd.R_append_step k71 (w0 := w) w.heap.size (by rfl) (.tmp 23) (.tmp 32) 64 71 (.agg #[(.string ⟨#[]⟩), (.int .u64 0), (.slice none 0 0)]) 48 rfl Try.underlying64 info71 rfl (by decide) (by omega) u6 x6_2 (⟨(rd_T67 ((rd_T63 l0_6 x12_1).f1) x19_2).f0, (rd_T67 ((rd_T63 l0_6 x12_1).f1) x19_2).f1, t203⟩ : S71) [.string ((rd_T67 ((rd_T63 l0_6 x12_1).f1) x19_2).f0), .int .u64 ((rd_T67 ((rd_T63 l0_6 x12_1).f1) x19_2).f1), .slice Ao26 t203.length co26] (fun _ => True) (fun k_ => ((fun _ => True)) k_ ∧ some k_ ≠ (u6 : Value).ownBlock) rfl rfl ?aP (fun _ hk => hk) ?aF ?aO ?aB ?aS ?aL ?_
            (case aP => exact k71_mkM _ _ _ (⟨(rd_T67 ((rd_T63 l0_6 x12_1).f1) x19_2).f0, (rd_T67 ((rd_T63 l0_6 x12_1).f1) x19_2).f1, t203⟩ : S71) (Kd.R_mono (Kd.R_apart' ((Kd.S_R HO205.out)) (Kd.R_typed HO_6.out) (by decide)) (fun k_ hk => ⟨trivial, hk.2⟩)))
            (case aB => exact (pb HB))
            (case aF => exact (fun _ _ => trivial))
            (case aO => exact (pr (Kd.R_mono HO_6.out (fun _ hk => trivial))))
            (case aS => exact (below_size (pb HB)))
            (case aL => have := LMc17.out; omega)
            intro v207 w27 ho hb hg hat
            rw [← Ny206.out] at ho;replace HO_3 := am (Kd.R_after (ok := (fun k_ => some k_ ≠ (.slice Ao26 t203.length co26 : Value).ownBlock)) (pr (Kd.R_mono HO_3.out (fun _ hk => ⟨hk.2, hk.1⟩))) hg hat);replace BK197 := am (blk_grown (g := gb197) (o := .cells #[.int .u64 a0_0, .int .u64 a0_1, .int .i64 a0_2, .int .i64 a0_3, .int .i64 a0_4, .int .i64 a0_5, .slice (some ad199) l0_6.length c0_6] 27 (0, 0)) (pk BK197.out) hg (Kd.R_ne HO_6.out BK197.out (by decide)));replace BK198 := am (blk_grown (g := gb198) (o := .cells #[.int .u64 0, .int .u64 0, .int .i64 0, .int .i64 0, .int .i64 0, .int .i64 0, .slice none 0 0] 32 (0, 0)) (pk BK198.out) hg (Kd.R_ne HO_6.out BK198.out (by decide)));replace BK200 := am (blk_grown (g := gb200) (o := .cells #[.int .i64 ((rd_T63 l0_6 x12_1).f0), .slice (some ad201) ((rd_T63 l0_6 x12_1).f1).length c199_1] 63 (0, 0)) (pk BK200.out) hg (Kd.R_ne HO_6.out BK200.out (by decide)));replace BK202 := am (blk_grown (g := gb202) (o := .cells #[.string ((rd_T67 ((rd_T63 l0_6 x12_1).f1) x19_2).f0), .int .u64 ((rd_T67 ((rd_T63 l0_6 x12_1).f1) x19_2).f1), .slice A201_2 ((rd_T67 ((rd_T63 l0_6 x12_1).f1) x19_2).f2).length c201_2] 67 (0, 0)) (pk BK202.out) hg (Kd.R_ne HO_6.out BK202.out (by decide)));replace HB := am (hb);have HO208 := am (ho);clear HO_6 HO205;clear ho hb hg hat
            refine hK.out _ _ (Q3 BK202) (fun hHeld => ?_)
            clear hK K;refine nm ?_;refine pu 11 ?_
            refine done_ (done_of HT_.out (by kernel_rfl)) ?_
            try go_wp2
            go_roundg k2
            case measure => have := HK1.out; have := HK2.out; omega
            case rel => exact ⟨(y206), (wrap64 (x19_2 + 1)), eR, H', ⟨by have := HK1.out; have := HK2.out; omega⟩, ⟨by refine pr ?_; exact Kd.R_mono HO_3.out (fun _ hk => hk.2)⟩, ⟨pr HO208.out⟩, ⟨pk BK197.out⟩, ⟨pk BK198.out⟩, ⟨pk BK200.out⟩, ⟨pb HB⟩⟩
           ·rw [if_neg c17] at H;exact absurd H (by simp)
          ·rw [if_neg c15] at H;exact absurd H (by simp)
         ·rw [if_neg c14] at H;exact absurd H (by simp)
        ·rw [if_neg c13] at H;have c13b0 : decide (x19_2 < (((rd_T63 l0_6 x12_1).f1).length : Int)) = false := decide_eq_false c13;clear c13
         by_cases c28 : x3_1.length < 4398046511104
         ·rw [if_pos c28] at H;have LMc28 := am c28;clear c28;obtain ⟨y209, hy209⟩ : ∃ y_ : List (S73), y_ = (x3_1 ++ [(⟨((rd_T63 l0_6 x12_1).f0), x6_2⟩ : S73)]) := ⟨_, rfl⟩
          replace H : (l22_Ref.l0 k2 y209 l0_6 (l0_6.length : Int) (wrap64 (x12_1 + 1)) a0_0 a0_1 a0_2 a0_3 a0_4 a0_5 l0_6) = some (r1, r2, r3, r4, r5, r6, r7) := by first | (rw [hy209]; with_reducible exact H) | (have H2_ := (Option.bind_some _ _).symm.trans H; rw [hy209]; with_reducible exact H2_) | (have H2_ := (Option.bind_some _ _).symm.trans H; with_reducible exact H2_) | with_reducible exact H | (rw [hy209]; exact H) | exact H
          have Ny209 := am hy209;clear hy209;have H' := am H;clear H;have hnb29 := NB200_197.out;have hnc29 := NB197_200.out;have hnb30 := NB200_198.out;have hnc30 := NB198_200.out;obtain ⟨hcz31_0, hcz31_1, hfz31_0, hfz31_1⟩ := g2 BK200;obtain ⟨Ao32, co32, eo32⟩ := Kd.R_slice HO_6.out;subst eo32
          go_wp2_with (first | ((with_reducible refine gate_builtin (b := .append) (xs := #[.tmp 35, .tmp 40]) rfl ?_); at_builtin; refine Kd.R_append k73 (w0 := w) w.heap.size rfl (.tmp 35) (.tmp 40) 30 73 (.agg #[(.int .i64 0), (.slice none 0 0)]) 32 rfl Try.underlying30 info73 rfl (by decide) (by omega) u3 x3_1 (⟨((rd_T63 l0_6 x12_1).f0), x6_2⟩ : S73) [.int .i64 ((rd_T63 l0_6 x12_1).f0), .slice Ao32 x6_2.length co32] (fun _ => True) (fun k_ => ((fun _ => True)) k_ ∧ some k_ ≠ (u3 : Value).ownBlock) rfl rfl ?aP (fun _ hk => hk) ?aF ?aO ?aB ?aS ?aL ?_; (case aP => exact k73_mkM _ _ _ (⟨((rd_T63 l0_6 x12_1).f0), x6_2⟩ : S73) (Kd.R_mono (Kd.R_apart' (HO_6.out) (Kd.R_typed HO_3.out) (by decide)) (fun k_ hk => ⟨trivial, hk.2⟩))); (case aB => exact (pb HB)); (case aF => exact (fun _ _ => trivial)); (case aO => exact (pr (Kd.R_mono HO_3.out (fun _ hk => trivial)))); (case aS => exact (below_size (pb HB))); (case aL => have := LMc28.out; omega); intro v210 w33 ho hb hg hat; rw [← Ny209.out] at ho; replace BK197 := am (blk_grown (g := gb197) (o := .cells #[.int .u64 a0_0, .int .u64 a0_1, .int .i64 a0_2, .int .i64 a0_3, .int .i64 a0_4, .int .i64 a0_5, .slice (some ad199) l0_6.length c0_6] 27 (0, 0)) (pk BK197.out) hg (Kd.R_ne HO_3.out BK197.out (by decide))); replace BK198 := am (blk_grown (g := gb198) (o := .cells #[.int .u64 0, .int .u64 0, .int .i64 0, .int .i64 0, .int .i64 0, .int .i64 0, .slice none 0 0] 32 (0, 0)) (pk BK198.out) hg (Kd.R_ne HO_3.out BK198.out (by decide))); replace BK200 := am (blk_grown (g := gb200) (o := .cells #[.int .i64 ((rd_T63 l0_6 x12_1).f0), .slice A199_1 ((rd_T63 l0_6 x12_1).f1).length c199_1] 63 (0, 0)) (pk BK200.out) hg (Kd.R_ne HO_3.out BK200.out (by decide))); replace HB := am (hb); have HO211 := am (ho); clear HO_3 HO_6; clear ho hb hg hat))
          go_roundg k2
          case measure => have := HK1.out; have := HK2.out; omega
          case rel => exact ⟨(y209), (wrap64 (x12_1 + 1)), eR, H', ⟨by have := HK1.out; have := HK2.out; omega⟩, ⟨pr HO211.out⟩, ⟨pk BK197.out⟩, ⟨pk BK198.out⟩, ⟨pb HB⟩⟩
         ·rw [if_neg c28] at H;exact absurd H (by simp)
     ·rw [if_neg c8] at H;exact absurd H (by simp)
    ·rw [if_neg c7] at H;exact absurd H (by simp)
   ·rw [if_neg c6] at H;have c6b0 : decide (x12_1 < (l0_6.length : Int)) = false := decide_eq_false c6;clear c6
    simp only [Option.some.injEq, Prod.mk.injEq] at H
    obtain ⟨rfl, rfl, rfl, rfl, rfl, rfl, rfl⟩ := H;have hnb34 := NB197_198.out;have hnc34 := NB198_197.out;obtain ⟨hcz35_0, hcz35_1, hcz35_2, hcz35_3, hcz35_4, hcz35_5, hcz35_6, hfz35_0, hfz35_1, hfz35_2, hfz35_3, hfz35_4, hfz35_5, hfz35_6⟩ := g7 BK197;obtain ⟨Ao36, co36, eo36⟩ := Kd.R_slice HO_3.out;subst eo36;obtain ⟨hcz37_0, hcz37_1, hcz37_2, hcz37_3, hcz37_4, hcz37_5, hcz37_6, hfz37_0, hfz37_1, hfz37_2, hfz37_3, hfz37_4, hfz37_5, hfz37_6⟩ := g7 BK198
    go_wp2
    refine bodyPost_ret (results_cell_row rfl _ _ gb198 32 #[.int .u64 a0_0, .int .u64 a0_1, .int .i64 a0_2, .int .i64 a0_3, .int .i64 a0_4, .int .i64 a0_5, .slice Ao36 x3_1.length co36] (0, 0) _ rfl (by refine pk ?_; refine blk_put (cs := #[.int .u64 a0_0, .int .u64 a0_1, .int .i64 a0_2, .int .i64 a0_3, .int .i64 a0_4, .int .i64 a0_5, .slice none 0 0]) ?_ 6 _ rfl; refine pk ?_; refine blk_put (cs := #[.int .u64 a0_0, .int .u64 a0_1, .int .i64 a0_2, .int .i64 a0_3, .int .i64 a0_4, .int .i64 0, .slice none 0 0]) ?_ 5 _ rfl; refine pk ?_; refine blk_put (cs := #[.int .u64 a0_0, .int .u64 a0_1, .int .i64 a0_2, .int .i64 a0_3, .int .i64 0, .int .i64 0, .slice none 0 0]) ?_ 4 _ rfl; refine pk ?_; refine blk_put (cs := #[.int .u64 a0_0, .int .u64 a0_1, .int .i64 a0_2, .int .i64 0, .int .i64 0, .int .i64 0, .slice none 0 0]) ?_ 3 _ rfl; refine pk ?_; refine blk_put (cs := #[.int .u64 a0_0, .int .u64 a0_1, .int .i64 0, .int .i64 0, .int .i64 0, .int .i64 0, .slice none 0 0]) ?_ 2 _ rfl; refine pk ?_; refine blk_put (cs := #[.int .u64 a0_0, .int .u64 0, .int .i64 0, .int .i64 0, .int .i64 0, .int .i64 0, .slice none 0 0]) ?_ 1 _ rfl; refine pk ?_; refine blk_put (cs := #[.int .u64 0, .int .u64 0, .int .i64 0, .int .i64 0, .int .i64 0, .int .i64 0, .slice none 0 0]) ?_ 0 _ rfl; refine pk ?_; exact BK198.out) Try.underlying32 rfl (by kernel_rfl)) rfl ?_
    exact ⟨_, ey (h := ⟨(rf (f7 rfl) HO_3 BK198).out, pb HB⟩)⟩
end Go.Proofs.Ytagcobdpojeiiaa.H
