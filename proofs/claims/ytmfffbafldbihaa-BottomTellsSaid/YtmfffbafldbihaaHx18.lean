import Derived.Test.YtmfffbafldbihaaHx0
import Derived.Test.YtmfffbafldbihaaHx3
import Derived.Test.YtmfffbafldbihaaHx17
namespace Go.Proofs.Ytmfffbafldbihaa.H
open Go.RowKit Go.Proofs.YtmfffbafldbihaaW.PrintWords Go.Proofs.YtmfffbafldbihaaW.PrintLast Go.Proofs.YtmfffbafldbihaaW.PrintMore Go.Proofs.YtmfffbafldbihaaW.Sq
attribute [local go_sem] max2_int min2_int max_two min_two max_three min_three max_four min_four
set_option linter.unusedVariables false
set_option linter.unusedSimpArgs false

attribute [local go_sem high] eqA50
mutual
def r14_Right.j0 : Nat → Bool → Int → Int → Int → List (S60) → Option (Bool)
 | 0, _, _, _, _, _ => none
 | k + 1, x22, x313000, x313001, x313002, x313003 => if x22 = true then (some false) else (r14_Right.l0 k 0 x313000 x313001 x313002 x313003)
def r14_Right.l0 : Nat → Int → Int → Int → Int → List (S60) → Option (Bool)
 | 0, _, _, _, _, _ => none
 | k + 1, x3, x313000, x313001, x313002, x313003 => if x3 < (x313003.length : Int) then (if 0 ≤ x3 then (if (((rd_T60 x313003 x3).f0).size : Int) > 64 then (r14_Right.j2 k x3 true x313000 x313001 x313002 x313003 ((rd_T60 x313003 x3).f0) ((rd_T60 x313003 x3).f1) ((rd_T60 x313003 x3).f2.f0) ((rd_T60 x313003 x3).f2.f1)) else ((r05_Sum.f k x313000 x313001 ((rd_T60 x313003 x3).f0)).bind fun t316 => (if ((rd_T60 x313003 x3).f1) = t316 then (r14_Right.j2 k x3 (((rd_T60 x313003 x3).f2.f0) == 0 && (((rd_T60 x313003 x3).f2.f1) == 0)) x313000 x313001 x313002 x313003 ((rd_T60 x313003 x3).f0) ((rd_T60 x313003 x3).f1) ((rd_T60 x313003 x3).f2.f0) ((rd_T60 x313003 x3).f2.f1)) else (r14_Right.j2 k x3 true x313000 x313001 x313002 x313003 ((rd_T60 x313003 x3).f0) ((rd_T60 x313003 x3).f1) ((rd_T60 x313003 x3).f2.f0) ((rd_T60 x313003 x3).f2.f1))))) else (none)) else (some true)
def r14_Right.j2 : Nat → Int → Bool → Int → Int → Int → List (S60) → ByteArray → Int → Int → Int → Option (Bool)
 | 0, _, _, _, _, _, _, _, _, _, _ => none
 | k + 1, x3, x55, x313000, x313001, x313002, x313003, x315000, x315001, x315002, x315003 => if x55 = true then (some false) else (if x3 > 0 then (if 0 ≤ (wrap64 (x3 - 1)) then (if (wrap64 (x3 - 1)) < (x313003.length : Int) then ((r14_Ahead.f ((rd_T60 x313003 (wrap64 (x3 - 1))).f0) ((rd_T60 x313003 (wrap64 (x3 - 1))).f1) ((rd_T60 x313003 (wrap64 (x3 - 1))).f2.f0) ((rd_T60 x313003 (wrap64 (x3 - 1))).f2.f1) x315000 x315001 x315002 x315003).bind fun t318 => (if t318 = true then (r14_Right.l0 k (wrap64 (x3 + 1)) x313000 x313001 x313002 x313003) else (some false))) else (none)) else (none)) else (r14_Right.l0 k (wrap64 (x3 + 1)) x313000 x313001 x313002 x313003))
end
def r14_Right.f (k : Nat) (a0_0 : Int) (a0_1 : Int) (a0_2 : Int) (l0_3 : List (S60)) : Option (Bool) := if a0_2 < 1 then (r14_Right.j0 k true a0_0 a0_1 a0_2 l0_3) else (if a0_2 > 1024 then (r14_Right.j0 k true a0_0 a0_1 a0_2 l0_3) else (r14_Right.j0 k (decide ((l0_3.length : Int) > (wrap64 (a0_2 + 1)))) a0_0 a0_1 a0_2 l0_3))
theorem r14_Right.mono_l : ∀ k, (∀ y0 y1 y2 y3 y4, LeO (r14_Right.j0 k y0 y1 y2 y3 y4) (r14_Right.j0 (k + 1) y0 y1 y2 y3 y4)) ∧ (∀ y0 y1 y2 y3 y4, LeO (r14_Right.l0 k y0 y1 y2 y3 y4) (r14_Right.l0 (k + 1) y0 y1 y2 y3 y4)) ∧ (∀ y0 y1 y2 y3 y4 y5 y6 y7 y8 y9, LeO (r14_Right.j2 k y0 y1 y2 y3 y4 y5 y6 y7 y8 y9) (r14_Right.j2 (k + 1) y0 y1 y2 y3 y4 y5 y6 y7 y8 y9))
 | 0 => ⟨fun _ _ _ _ _ r h => by simp [r14_Right.j0] at h, fun _ _ _ _ _ r h => by simp [r14_Right.l0] at h, fun _ _ _ _ _ _ _ _ _ _ r h => by simp [r14_Right.j2] at h⟩
 | k + 1 => by
  obtain ⟨ih0, ih1, ih2⟩ := r14_Right.mono_l k
  refine ⟨?_, ?_, ?_⟩
  ·intro y0 y1 y2 y3 y4
   unfold r14_Right.j0
   repeat' first
   | (with_reducible exact ih0 _ _ _ _ _)
   | (with_reducible exact ih1 _ _ _ _ _)
   | (with_reducible exact ih2 _ _ _ _ _ _ _ _ _ _)
   | (with_reducible exact r05_Sum.mono _ _ _ _)
   | (with_reducible exact LeO.refl _)
   | (with_reducible exact LeO.none _)
   | (with_reducible refine LeO.ite ?_ ?_)
   | (with_reducible refine LeO.bind ?_ (fun _ => ?_))
  ·intro y0 y1 y2 y3 y4
   unfold r14_Right.l0
   repeat' first
   | (with_reducible exact ih0 _ _ _ _ _)
   | (with_reducible exact ih1 _ _ _ _ _)
   | (with_reducible exact ih2 _ _ _ _ _ _ _ _ _ _)
   | (with_reducible exact r05_Sum.mono _ _ _ _)
   | (with_reducible exact LeO.refl _)
   | (with_reducible exact LeO.none _)
   | (with_reducible refine LeO.ite ?_ ?_)
   | (with_reducible refine LeO.bind ?_ (fun _ => ?_))
  ·intro y0 y1 y2 y3 y4 y5 y6 y7 y8 y9
   unfold r14_Right.j2
   repeat' first
   | (with_reducible exact ih0 _ _ _ _ _)
   | (with_reducible exact ih1 _ _ _ _ _)
   | (with_reducible exact ih2 _ _ _ _ _ _ _ _ _ _)
   | (with_reducible exact r05_Sum.mono _ _ _ _)
   | (with_reducible exact LeO.refl _)
   | (with_reducible exact LeO.none _)
   | (with_reducible refine LeO.ite ?_ ?_)
   | (with_reducible refine LeO.bind ?_ (fun _ => ?_))
theorem r14_Right.mono : ∀ a0 a1 a2 a3 k, LeO (r14_Right.f k a0 a1 a2 a3) (r14_Right.f (k + 1) a0 a1 a2 a3) := by
 intro a0 a1 a2 a3 k
 obtain ⟨ih0, ih1, ih2⟩ := r14_Right.mono_l k
 unfold r14_Right.f
 repeat' first
   | (with_reducible exact ih0 _ _ _ _ _)
   | (with_reducible exact ih1 _ _ _ _ _)
   | (with_reducible exact ih2 _ _ _ _ _ _ _ _ _ _)
   | (with_reducible exact r05_Sum.mono _ _ _ _)
   | (with_reducible exact LeO.refl _)
   | (with_reducible exact LeO.none _)
   | (with_reducible refine LeO.ite ?_ ?_)
   | (with_reducible refine LeO.bind ?_ (fun _ => ?_))
def r14_Right.T8 : Bool × List (List Nat × List Nat) := (true, [([], []), ([0], [0]), ([1], [1]), ([2], [2]), ([3], [3]), ([4], [4]), ([5, 4], [4, 5]), ([4], [4]), ([7, 4], [4, 7]), ([4], [4]), ([9, 4], [4, 9]), ([8, 10, 4, 4], [4, 8, 10]), ([6, 11, 4], [4, 6, 11]), ([4, 12], [4, 12]), ([13, 11], [13]), ([14], [14]), ([15, 14], [14, 15]), ([14], [14]), ([16, 17, 14], [14, 16, 17]), ([14, 18], [14, 18])])
def r14_Right.B8 : List Nat := [0, 1, 3, 7, 15, 31, 63, 31, 159, 31, 543, 1951, 4095, 8191, 16383, 32767, 65535, 32767, 262143, 524287]
theorem r14_Right.tab8 : rtab .any (opsOf Try.f14 8) = r14_Right.T8 := by kernel_rfl
theorem r14_Right.bits8 : waitsOk r14_Right.T8.2 r14_Right.B8 = true := by kernel_rfl
def r14_Right.T10 : Bool × List (List Nat × List Nat) := (true, [([], []), ([0], [0]), ([1], [1]), ([2], [2]), ([3, 2], [2, 3]), ([2], [2]), ([5, 2], [2, 5]), ([4, 6, 2], [2, 4, 6]), ([7, 2], [2, 7]), ([2], [2]), ([8, 9, 2, 2], [2, 8, 9]), ([10, 2], [2, 10]), ([2, 11], [2, 11])])
def r14_Right.B10 : List Nat := [0, 1, 3, 7, 15, 7, 39, 127, 255, 7, 1023, 2047, 4095]
theorem r14_Right.tab10 : rtab .any (opsOf Try.f14 10) = r14_Right.T10 := by kernel_rfl
theorem r14_Right.bits10 : waitsOk r14_Right.T10.2 r14_Right.B10 = true := by kernel_rfl
set_option maxHeartbeats 8000000 in
set_option maxRecDepth 100000 in
theorem r14_Right.calls (k : Nat) (a0_0 : Int) (a0_1 : Int) (a0_2 : Int) (A0_3 : Option Addr) (c0_3 : Nat) (l0_3 : List (S60)) (r : Bool) (w : World) (hr0_3 : Kd.C k60 w A0_3 l0_3.length l0_3) (hc0_3 : l0_3.length ≤ c0_3) (h : r14_Right.f k a0_0 a0_1 a0_2 l0_3 = some r) :
  Calls Try.prog 14 #[.agg #[.int .u64 a0_0, .int .u64 a0_1, .int .i64 a0_2, .slice A0_3 l0_3.length c0_3]] w fun e w' => e = .returned (.bool r) ∧ Below w.heap.size w w' := by
 have hu30 := Try.underlying30;have hu60 := Try.underlying60;have hu50 := Try.underlying50;have hu24 := Try.underlying24;have HR0_3 := am hr0_3;have HC0_3 := am hc0_3;clear hr0_3 hc0_3;have HB := am (Below.refl w.heap.size w);have H : (if a0_2 < 1 then (r14_Right.j0 k true a0_0 a0_1 a0_2 l0_3) else (if a0_2 > 1024 then (r14_Right.j0 k true a0_0 a0_1 a0_2 l0_3) else (r14_Right.j0 k (decide ((l0_3.length : Int) > (wrap64 (a0_2 + 1)))) a0_0 a0_1 a0_2 l0_3))) = some r := h;clear h;have HC2 := am H;clear H
 go_enter Try.func14, Try.ntmps14
 go_upto_region 1 with (first | ((with_reducible refine gate_dst (N := 1) rfl ?_); (try (refine gate_guard (by rfl) ?_; dsimp only)); refine be 1 #[.int .u64 a0_0, .int .u64 a0_1, .int .i64 a0_2, .slice A0_3 l0_3.length c0_3] 30 ?_; intro gb312 hg w3 hbox hb; have BK312 := am (hbox); have GW312 := am ((pg hg HB : w.heap.size ≤ gb312)); have GE312 := am ((pg hg HB : w.heap.size ≤ gb312)); replace HB := am (below_step (pb HB) hb); clear hb hbox hg))
 (try simp only [Act.put, List.setIfInBounds_toArray, List.set_cons_zero, List.set_cons_succ])
 go_cut [22] (fun v22 wc => ∃ (kq : Nat) (x22_1 : Bool), v22 = .bool x22_1 ∧ Aside0 (r14_Right.j0 kq x22_1 a0_0 a0_1 a0_2 l0_3 = some r) ∧ Aside0 (kq ≤ k) ∧ Aside0 (wc.heap[gb312]? = some (.cells #[.int .u64 a0_0, .int .u64 a0_1, .int .i64 a0_2, (.slice A0_3 l0_3.length c0_3)] 30 (0, 0))) ∧ Aside0 (Below w.heap.size w wc))
 case first =>
  have H := HC2.out;clear HC2
  by_cases c4 : a0_2 < 1
  ·rw [if_pos c4] at H;have c4b0 : decide (a0_2 < 1) = true := decide_eq_true c4;clear c4
   (first | rw [c4b0] | (simp only [i64_w, i32_w]; rw [c4b0]) | skip)
   have H' := am H;clear H;obtain ⟨hcz5_0, hcz5_1, hcz5_2, hcz5_3, hfz5_0, hfz5_1, hfz5_2, hfz5_3⟩ := g4 BK312
   go_wp2
   go_meet
   case rel => exact ⟨_, (true), (by first | rfl | (simp; done) | (simp [*]; done)), H', ⟨by first | omega | exact Nat.le_refl _⟩, ⟨pk BK312.out⟩, ⟨pb HB⟩⟩
  ·rw [if_neg c4] at H;have c4b0 : decide (a0_2 < 1) = false := decide_eq_false c4;clear c4
   (first | rw [c4b0] | (simp only [i64_w, i32_w]; rw [c4b0]) | skip)
   by_cases c6 : a0_2 > 1024
   ·rw [if_pos c6] at H;have c6b0 : decide (1024 < a0_2) = true := decide_eq_true c6;clear c6;have H' := am H;clear H;obtain ⟨hcz7_0, hcz7_1, hcz7_2, hcz7_3, hfz7_0, hfz7_1, hfz7_2, hfz7_3⟩ := g4 BK312
    go_wp2
    go_meet
    case rel => exact ⟨_, (true), (by first | rfl | (simp; done) | (simp [*]; done)), H', ⟨by first | omega | exact Nat.le_refl _⟩, ⟨pk BK312.out⟩, ⟨pb HB⟩⟩
   ·rw [if_neg c6] at H;have c6b0 : decide (1024 < a0_2) = false := decide_eq_false c6;clear c6;have H' := am H;clear H;obtain ⟨hcz8_0, hcz8_1, hcz8_2, hcz8_3, hfz8_0, hfz8_1, hfz8_2, hfz8_3⟩ := g4 BK312
    go_wp2
    go_meet
    case rel => exact ⟨_, (decide ((l0_3.length : Int) > (wrap64 (a0_2 + 1)))), (by first | rfl | (simp; done) | (simp [*]; done)), H', ⟨by first | omega | exact Nat.le_refl _⟩, ⟨pk BK312.out⟩, ⟨pb HB⟩⟩
 case rest =>
  clear HC2;(try clear c1);(try clear p2);(try clear c4);(try clear c4b0);(try clear c6);(try clear c6b0);(try clear p6);(try clear hcz5_0 hcz5_1 hcz5_2 hcz5_3);(try clear hcz7_0 hcz7_1 hcz7_2 hcz7_3);(try clear hcz8_0 hcz8_1 hcz8_2 hcz8_3);(try clear hfz5_0 hfz5_1 hfz5_2 hfz5_3);(try clear hfz7_0 hfz7_1 hfz7_2 hfz7_3);(try clear hfz8_0 hfz8_1 hfz8_2 hfz8_3);obtain ⟨kq, x22_1, rfl, HA, HJ1, BK312, HB⟩ := hcut
  cases kq with
  | zero => exact absurd HA.out (by simp [r14_Right.j0])
  | succ kj1 =>
   have H := HA.out;clear HA
   simp only [r14_Right.j0] at H
   by_cases c9 : x22_1 = true
   ·subst c9
    have H1 : (some false) = some r := by rw [if_pos rfl] at H; exact H
    clear H;have H := H1;clear H1;obtain rfl := Option.some.inj H
    go_wp2
    go_ret
    exact ⟨by first | rfl | (simp [errW_none, errW_some] <;> rfl) | (simp [*, errW_none, errW_some] <;> rfl), pb HB⟩
   ·replace c9 := Bool.eq_false_iff.mpr c9;subst c9
    have H1 : (r14_Right.l0 kj1 0 a0_0 a0_1 a0_2 l0_3) = some r := by rw [if_neg (show ¬ (false = true) by decide)] at H; exact H
    clear H;have H := H1;clear H1;have H' := am H;clear H
    go_wp2
    go_loopg [3] kj1 (fun kq v3 w' => ∃ (x3_2 : Int), v3 = .int .i64 x3_2 ∧ Aside0 (r14_Right.l0 kq x3_2 a0_0 a0_1 a0_2 l0_3 = some r) ∧ Aside0 (kq ≤ kj1) ∧ Aside0 (w'.heap[gb312]? = some (.cells #[.int .u64 a0_0, .int .u64 a0_1, .int .i64 a0_2, (.slice A0_3 l0_3.length c0_3)] 30 (0, 0))) ∧ Aside0 (Below w.heap.size w w'))
    case atStart => exact ⟨(0), (by first | rfl | (simp; done) | (simp [*]; done)), H', ⟨Nat.le_refl _⟩, ⟨pk BK312.out⟩, ⟨pb HB⟩⟩
    case round =>
     clear H';(try clear c1);(try clear p2);(try clear c4);(try clear c4b0);(try clear c6);(try clear c6b0);(try clear p6);(try clear c9);(try clear hcz5_0 hcz5_1 hcz5_2 hcz5_3);(try clear hcz7_0 hcz7_1 hcz7_2 hcz7_3);(try clear hcz8_0 hcz8_1 hcz8_2 hcz8_3);(try clear hfz5_0 hfz5_1 hfz5_2 hfz5_3);(try clear hfz7_0 hfz7_1 hfz7_2 hfz7_3);(try clear hfz8_0 hfz8_1 hfz8_2 hfz8_3);(try clear p2);(try clear p6);obtain ⟨x3_2, rfl, HA, HK2, BK312, HB⟩ := hrel
     cases gk with
     | zero => exact absurd HA.out (by simp [r14_Right.l0])
     | succ k2 =>
      have H := HA.out;clear HA
      simp only [r14_Right.l0] at H
      by_cases c10 : x3_2 < (l0_3.length : Int)
      ·rw [if_pos c10] at H;have c10b0 : decide (x3_2 < (l0_3.length : Int)) = true := decide_eq_true c10;clear c10
       by_cases c11 : 0 ≤ x3_2
       ·rw [if_pos c11] at H;have c11b0 : decide (0 ≤ x3_2) = true := decide_eq_true c11;clear c11;have HC12 := am H;clear H;obtain ⟨hcz13_0, hcz13_1, hcz13_2, hcz13_3, hfz13_0, hfz13_1, hfz13_2, hfz13_3⟩ := g4 BK312;have p313 : 0 ≤ (x3_2 : Int) := of_decide_eq_true (by first | (with_reducible assumption) | assumption);have q313 : x3_2 < (l0_3.length : Int) := of_decide_eq_true (by first | (with_reducible assumption) | assumption);obtain ⟨ad313, e313, hx313_0, hx313_1, hx313_2, hx313_3⟩ := at_T60 HR0_3.out x3_2 p313 q313;cases e313;replace hx313_0 := (HB.out.cell (World.block_lt_of_cell? w _ hx313_0)).trans hx313_0;replace hx313_1 := (HB.out.cell (World.block_lt_of_cell? w _ hx313_1)).trans hx313_1;replace hx313_2 := (HB.out.cell (World.block_lt_of_cell? w _ hx313_2)).trans hx313_2;replace hx313_3 := (HB.out.cell (World.block_lt_of_cell? w _ hx313_3)).trans hx313_3;replace p313 := eq_true p313;replace q313 := eq_true q313
        go_upto_region 8 with (first | ((with_reducible refine gate_dst (N := 4) rfl ?_); (try (refine gate_guard (by rfl) ?_; dsimp only)); refine be 4 #[.string (⟨#[]⟩ : ByteArray), .int .u64 0, .int .u64 0, .int .u64 0] 60 ?_; intro gb314 hg w14 hbox hb; have BK314 := am (hbox); have GW314 := am ((pg hg HB : w.heap.size ≤ gb314)); have GE314 := am ((pg hg HB : w.heap.size ≤ gb314)); replace HB := am (below_step (pb HB) hb); obtain ⟨NB312_314, NB314_312, hnc15, hnb15⟩ := pm hg BK312; replace BK312 := am (blk_below (pk BK312.out) hb); clear hb hbox hg; obtain ⟨hcz16_0, hcz16_1, hcz16_2, hcz16_3, hfz16_0, hfz16_1, hfz16_2, hfz16_3⟩ := g4 BK314) | ((with_reducible refine gate_dst (N := 5) rfl ?_); (try (refine gate_guard (by rfl) ?_; dsimp only)); refine be 5 #[.int .u64 0, .int .u64 0] 50 ?_; intro gb315 hg w17 hbox hb; have BK315 := am (hbox); have GW315 := am ((pg hg HB : w.heap.size ≤ gb315)); have GE315 := am ((pg hg HB : w.heap.size ≤ gb315)); replace HB := am (below_step (pb HB) hb); have NB312_315 := am ((by rw [hg]; exact Nat.ne_of_lt (blk_lt (g := gb312) (o := .cells #[.int .u64 a0_0, .int .u64 a0_1, .int .i64 a0_2, .slice (some ad313) l0_3.length c0_3] 30 (0, 0)) (by refine pk ?_; refine blk_far ?_ NB312_314.out _; refine pk ?_; refine blk_far ?_ NB312_314.out _; refine pk ?_; refine blk_far ?_ NB312_314.out _; refine pk ?_; refine blk_far ?_ NB312_314.out _; refine pk ?_; exact BK312.out)) : gb312 ≠ gb315)); have NB315_312 := am ((by rw [hg]; exact Nat.ne_of_gt (blk_lt (g := gb312) (o := .cells #[.int .u64 a0_0, .int .u64 a0_1, .int .i64 a0_2, .slice (some ad313) l0_3.length c0_3] 30 (0, 0)) (by refine pk ?_; refine blk_far ?_ NB312_314.out _; refine pk ?_; refine blk_far ?_ NB312_314.out _; refine pk ?_; refine blk_far ?_ NB312_314.out _; refine pk ?_; refine blk_far ?_ NB312_314.out _; refine pk ?_; exact BK312.out)) : gb315 ≠ gb312)); replace BK312 := am (blk_below (g := gb312) (o := .cells #[.int .u64 a0_0, .int .u64 a0_1, .int .i64 a0_2, .slice (some ad313) l0_3.length c0_3] 30 (0, 0)) (by refine pk ?_; refine blk_far ?_ NB312_314.out _; refine pk ?_; refine blk_far ?_ NB312_314.out _; refine pk ?_; refine blk_far ?_ NB312_314.out _; refine pk ?_; refine blk_far ?_ NB312_314.out _; refine pk ?_; exact BK312.out) hb); have NB314_315 := am ((by rw [hg]; exact Nat.ne_of_lt (blk_lt (g := gb314) (o := .cells #[.string ((rd_T60 l0_3 x3_2).f0), .int .u64 ((rd_T60 l0_3 x3_2).f1), .int .u64 ((rd_T60 l0_3 x3_2).f2.f0), .int .u64 ((rd_T60 l0_3 x3_2).f2.f1)] 60 (0, 0)) (by refine pk ?_; refine blk_put (cs := #[.string ((rd_T60 l0_3 x3_2).f0), .int .u64 ((rd_T60 l0_3 x3_2).f1), .int .u64 ((rd_T60 l0_3 x3_2).f2.f0), .int .u64 0]) ?_ 3 _ rfl; refine pk ?_; refine blk_put (cs := #[.string ((rd_T60 l0_3 x3_2).f0), .int .u64 ((rd_T60 l0_3 x3_2).f1), .int .u64 0, .int .u64 0]) ?_ 2 _ rfl; refine pk ?_; refine blk_put (cs := #[.string ((rd_T60 l0_3 x3_2).f0), .int .u64 0, .int .u64 0, .int .u64 0]) ?_ 1 _ rfl; refine pk ?_; refine blk_put (cs := #[.string (⟨#[]⟩ : ByteArray), .int .u64 0, .int .u64 0, .int .u64 0]) ?_ 0 _ rfl; refine pk ?_; exact BK314.out)) : gb314 ≠ gb315)); have NB315_314 := am ((by rw [hg]; exact Nat.ne_of_gt (blk_lt (g := gb314) (o := .cells #[.string ((rd_T60 l0_3 x3_2).f0), .int .u64 ((rd_T60 l0_3 x3_2).f1), .int .u64 ((rd_T60 l0_3 x3_2).f2.f0), .int .u64 ((rd_T60 l0_3 x3_2).f2.f1)] 60 (0, 0)) (by refine pk ?_; refine blk_put (cs := #[.string ((rd_T60 l0_3 x3_2).f0), .int .u64 ((rd_T60 l0_3 x3_2).f1), .int .u64 ((rd_T60 l0_3 x3_2).f2.f0), .int .u64 0]) ?_ 3 _ rfl; refine pk ?_; refine blk_put (cs := #[.string ((rd_T60 l0_3 x3_2).f0), .int .u64 ((rd_T60 l0_3 x3_2).f1), .int .u64 0, .int .u64 0]) ?_ 2 _ rfl; refine pk ?_; refine blk_put (cs := #[.string ((rd_T60 l0_3 x3_2).f0), .int .u64 0, .int .u64 0, .int .u64 0]) ?_ 1 _ rfl; refine pk ?_; refine blk_put (cs := #[.string (⟨#[]⟩ : ByteArray), .int .u64 0, .int .u64 0, .int .u64 0]) ?_ 0 _ rfl; refine pk ?_; exact BK314.out)) : gb315 ≠ gb314)); replace BK314 := am (blk_below (g := gb314) (o := .cells #[.string ((rd_T60 l0_3 x3_2).f0), .int .u64 ((rd_T60 l0_3 x3_2).f1), .int .u64 ((rd_T60 l0_3 x3_2).f2.f0), .int .u64 ((rd_T60 l0_3 x3_2).f2.f1)] 60 (0, 0)) (by refine pk ?_; refine blk_put (cs := #[.string ((rd_T60 l0_3 x3_2).f0), .int .u64 ((rd_T60 l0_3 x3_2).f1), .int .u64 ((rd_T60 l0_3 x3_2).f2.f0), .int .u64 0]) ?_ 3 _ rfl; refine pk ?_; refine blk_put (cs := #[.string ((rd_T60 l0_3 x3_2).f0), .int .u64 ((rd_T60 l0_3 x3_2).f1), .int .u64 0, .int .u64 0]) ?_ 2 _ rfl; refine pk ?_; refine blk_put (cs := #[.string ((rd_T60 l0_3 x3_2).f0), .int .u64 0, .int .u64 0, .int .u64 0]) ?_ 1 _ rfl; refine pk ?_; refine blk_put (cs := #[.string (⟨#[]⟩ : ByteArray), .int .u64 0, .int .u64 0, .int .u64 0]) ?_ 0 _ rfl; refine pk ?_; exact BK314.out) hb); clear hb hbox hg; have hnb18 := NB315_312.out; have hnc18 := NB312_315.out; have hnb19 := NB315_314.out; have hnc19 := NB314_315.out; obtain ⟨hcz20_0, hcz20_1, hfz20_0, hfz20_1⟩ := g2 BK315))
        (try simp only [Act.put, List.setIfInBounds_toArray, List.set_cons_zero, List.set_cons_succ])
        go_cut [55] (fun v55 wc => ∃ (kq : Nat) (x55_11 : Bool), v55 = .bool x55_11 ∧ Aside0 (r14_Right.j2 kq x3_2 x55_11 a0_0 a0_1 a0_2 l0_3 ((rd_T60 l0_3 x3_2).f0) ((rd_T60 l0_3 x3_2).f1) ((rd_T60 l0_3 x3_2).f2.f0) ((rd_T60 l0_3 x3_2).f2.f1) = some r) ∧ Aside0 (kq ≤ k2) ∧ Aside0 (wc.heap[gb312]? = some (.cells #[.int .u64 a0_0, .int .u64 a0_1, .int .i64 a0_2, (.slice (some ad313) l0_3.length c0_3)] 30 (0, 0))) ∧ Aside0 (wc.heap[gb314]? = some (.cells #[.string ((rd_T60 l0_3 x3_2).f0), .int .u64 ((rd_T60 l0_3 x3_2).f1), .int .u64 ((rd_T60 l0_3 x3_2).f2.f0), .int .u64 ((rd_T60 l0_3 x3_2).f2.f1)] 60 (0, 0))) ∧ Aside0 (wc.heap[gb315]? = some (.cells #[.int .u64 0, .int .u64 0] 50 (0, 0))) ∧ Aside0 (Below w.heap.size w wc))
        case first =>
         have H := HC12.out;clear HC12
         by_cases c21 : (((rd_T60 l0_3 x3_2).f0).size : Int) > 64
         ·rw [if_pos c21] at H;have c21b0 : decide (64 < (((rd_T60 l0_3 x3_2).f0).size : Int)) = true := decide_eq_true c21;have c21b1 : decide (64 < ((rd_T60 l0_3 x3_2).f0).size) = true := decide_eq_true (by omega);clear c21
          (first | rw [c21b0] | (simp only [i64_w, i32_w]; rw [c21b0]) | skip)
          have H' := am H;clear H
          try go_wp2
          have n0_ : Aside0 (((w17.setCell ⟨gb315, 0, none⟩ (.int .u64 0)).setCell ⟨gb315, 1, none⟩ (.int .u64 0)).heap[gb312]? = some (.cells #[.int .u64 a0_0, .int .u64 a0_1, .int .i64 a0_2, .slice (some ad313) l0_3.length c0_3] 30 (0, 0))) := ⟨by refine pk ?_; refine blk_far ?_ NB312_315.out _; refine pk ?_; refine blk_far ?_ NB312_315.out _; refine pk ?_; exact BK312.out⟩;have n1_ : Aside0 (((w17.setCell ⟨gb315, 0, none⟩ (.int .u64 0)).setCell ⟨gb315, 1, none⟩ (.int .u64 0)).heap[gb314]? = some (.cells #[.string ((rd_T60 l0_3 x3_2).f0), .int .u64 ((rd_T60 l0_3 x3_2).f1), .int .u64 ((rd_T60 l0_3 x3_2).f2.f0), .int .u64 ((rd_T60 l0_3 x3_2).f2.f1)] 60 (0, 0))) := ⟨by refine pk ?_; refine blk_far ?_ NB314_315.out _; refine pk ?_; refine blk_far ?_ NB314_315.out _; refine pk ?_; exact BK314.out⟩;have n2_ : Aside0 (((w17.setCell ⟨gb315, 0, none⟩ (.int .u64 0)).setCell ⟨gb315, 1, none⟩ (.int .u64 0)).heap[gb315]? = some (.cells #[.int .u64 0, .int .u64 0] 50 (0, 0))) := ⟨by refine pk ?_; refine blk_put (cs := #[.int .u64 0, .int .u64 0]) ?_ 1 _ rfl; refine pk ?_; refine blk_put (cs := #[.int .u64 0, .int .u64 0]) ?_ 0 _ rfl; refine pk ?_; exact BK315.out⟩;have n3_ : Aside0 (Below w.heap.size w ((w17.setCell ⟨gb315, 0, none⟩ (.int .u64 0)).setCell ⟨gb315, 1, none⟩ (.int .u64 0))) := ⟨pb HB⟩
          (try clear BK312)
          (try clear BK314)
          (try clear BK315)
          (try clear HB)
          generalize ((w17.setCell ⟨gb315, 0, none⟩ (.int .u64 0)).setCell ⟨gb315, 1, none⟩ (.int .u64 0)) = w22 at n0_ n1_ n2_ n3_ ⊢
          have BK312 := n0_;have BK314 := n1_;have BK315 := n2_;have HB := n3_;clear n0_ n1_ n2_ n3_;replace BK312 := am (blk_drew BK312.out);replace BK314 := am (blk_drew BK314.out);replace BK315 := am (blk_drew BK315.out);replace HB := am (below_drew1 HB.out)
          refine start_ (n := 20) (S := fun w' => w'.cell? ⟨gb314, 0, none⟩ = some (.string ((rd_T60 l0_3 x3_2).f0)) ∧ w'.cell? ⟨gb314, 1, none⟩ = some (.int .u64 ((rd_T60 l0_3 x3_2).f1)) ∧ w'.cell? ⟨gb314, 2, none⟩ = some (.int .u64 ((rd_T60 l0_3 x3_2).f2.f0)) ∧ w'.cell? ⟨gb314, 3, none⟩ = some (.int .u64 ((rd_T60 l0_3 x3_2).f2.f1))) (ds := []) #[false, false, false, false, false, false, false, false, false, false, false, false, false, false, false, false, false, false, false, false] (by kernel_rfl) rfl rfl ⟨ce BK314 0, ce BK314 1, ce BK314 2, ce BK314 3⟩ (fun hHeld => ?_); refine with_tabW r14_Right.tab8 r14_Right.bits8 (fun HT_ HW_ => ?_)
          generalize w22.drew = w23 at BK312 BK314 BK315 HB hHeld ⊢
          refine pu 0 ?_
          refine ta 1 hHeld ?_
          refine pu 2 ?_
          refine pu 3 ?_
          refine pu 4 ?_
          refine po 5 ?_
          refine po 6 ?_
          refine po 7 ?_
          refine po 8 ?_
          refine po 9 ?_
          refine po 10 ?_
          refine po 11 ?_
          refine po 12 ?_
          refine pu 13 ?_
          refine pu 14 ?_
          refine po 15 ?_
          refine po 16 ?_
          refine po 17 ?_
          refine po 18 ?_
          refine pu 19 ?_
          refine done_ (done_of HT_.out (by kernel_rfl)) ?_
          try go_wp2
          go_meet
          case rel => exact ⟨_, (true), (by first | rfl | (simp; done) | (simp [*]; done)), H', ⟨by have := HJ1.out; have := HK2.out; first | omega | exact Nat.le_refl _⟩, ⟨pk BK312.out⟩, ⟨pk BK314.out⟩, ⟨pk BK315.out⟩, ⟨pb HB⟩⟩
         ·rw [if_neg c21] at H;have c21b0 : decide (64 < (((rd_T60 l0_3 x3_2).f0).size : Int)) = false := decide_eq_false c21;have c21b1 : decide (64 < ((rd_T60 l0_3 x3_2).f0).size) = false := decide_eq_false (by omega);clear c21
          (first | rw [c21b0] | (simp only [i64_w, i32_w]; rw [c21b0]) | skip)
          replace H := Option.bind_eq_some_iff.mp H;obtain ⟨t316, A240, H⟩ := H
          try dsimp only at H
          have A24 := am A240;clear A240
          by_cases c25 : ((rd_T60 l0_3 x3_2).f1) = t316
          ·rw [if_pos c25] at H;have c25b0 : (((rd_T60 l0_3 x3_2).f1) == t316) = true := beq_iff_eq.mpr c25;have c25b1 : (((rd_T60 l0_3 x3_2).f1) != t316) = false := bne_eq_false_iff_eq.mpr c25;clear c25;have H' := am H;clear H
           try go_wp2
           have n0_ : Aside0 (((w17.setCell ⟨gb315, 0, none⟩ (.int .u64 0)).setCell ⟨gb315, 1, none⟩ (.int .u64 0)).heap[gb312]? = some (.cells #[.int .u64 a0_0, .int .u64 a0_1, .int .i64 a0_2, .slice (some ad313) l0_3.length c0_3] 30 (0, 0))) := ⟨by refine pk ?_; refine blk_far ?_ NB312_315.out _; refine pk ?_; refine blk_far ?_ NB312_315.out _; refine pk ?_; exact BK312.out⟩;have n1_ : Aside0 (((w17.setCell ⟨gb315, 0, none⟩ (.int .u64 0)).setCell ⟨gb315, 1, none⟩ (.int .u64 0)).heap[gb314]? = some (.cells #[.string ((rd_T60 l0_3 x3_2).f0), .int .u64 ((rd_T60 l0_3 x3_2).f1), .int .u64 ((rd_T60 l0_3 x3_2).f2.f0), .int .u64 ((rd_T60 l0_3 x3_2).f2.f1)] 60 (0, 0))) := ⟨by refine pk ?_; refine blk_far ?_ NB314_315.out _; refine pk ?_; refine blk_far ?_ NB314_315.out _; refine pk ?_; exact BK314.out⟩;have n2_ : Aside0 (((w17.setCell ⟨gb315, 0, none⟩ (.int .u64 0)).setCell ⟨gb315, 1, none⟩ (.int .u64 0)).heap[gb315]? = some (.cells #[.int .u64 0, .int .u64 0] 50 (0, 0))) := ⟨by refine pk ?_; refine blk_put (cs := #[.int .u64 0, .int .u64 0]) ?_ 1 _ rfl; refine pk ?_; refine blk_put (cs := #[.int .u64 0, .int .u64 0]) ?_ 0 _ rfl; refine pk ?_; exact BK315.out⟩;have n3_ : Aside0 (Below w.heap.size w ((w17.setCell ⟨gb315, 0, none⟩ (.int .u64 0)).setCell ⟨gb315, 1, none⟩ (.int .u64 0))) := ⟨pb HB⟩
           (try clear BK312)
           (try clear BK314)
           (try clear BK315)
           (try clear HB)
           generalize ((w17.setCell ⟨gb315, 0, none⟩ (.int .u64 0)).setCell ⟨gb315, 1, none⟩ (.int .u64 0)) = w26 at n0_ n1_ n2_ n3_ ⊢
           have BK312 := n0_;have BK314 := n1_;have BK315 := n2_;have HB := n3_;clear n0_ n1_ n2_ n3_;replace BK312 := am (blk_drew BK312.out);replace BK314 := am (blk_drew BK314.out);replace BK315 := am (blk_drew BK315.out);replace HB := am (below_drew1 HB.out)
           refine start_ (n := 20) (S := fun w' => w'.cell? ⟨gb314, 0, none⟩ = some (.string ((rd_T60 l0_3 x3_2).f0)) ∧ w'.cell? ⟨gb314, 1, none⟩ = some (.int .u64 ((rd_T60 l0_3 x3_2).f1)) ∧ w'.cell? ⟨gb314, 2, none⟩ = some (.int .u64 ((rd_T60 l0_3 x3_2).f2.f0)) ∧ w'.cell? ⟨gb314, 3, none⟩ = some (.int .u64 ((rd_T60 l0_3 x3_2).f2.f1)) ∧ w'.cell? ⟨gb312, 0, none⟩ = some (.int .u64 a0_0) ∧ w'.cell? ⟨gb312, 1, none⟩ = some (.int .u64 a0_1) ∧ w'.cell? ⟨gb312, 2, none⟩ = some (.int .i64 a0_2) ∧ w'.cell? ⟨gb312, 3, none⟩ = some (.slice (some ad313) l0_3.length c0_3) ∧ w'.cell? ⟨gb315, 0, none⟩ = some (.int .u64 0) ∧ w'.cell? ⟨gb315, 1, none⟩ = some (.int .u64 0)) (ds := []) #[false, false, false, false, false, false, false, false, false, false, false, false, false, false, false, false, false, false, false, false] (by kernel_rfl) rfl rfl ⟨ce BK314 0, ce BK314 1, ce BK314 2, ce BK314 3, ce BK312 0, ce BK312 1, ce BK312 2, ce BK312 3, ce BK315 0, ce BK315 1⟩ (fun hHeld => ?_); refine with_tabW r14_Right.tab8 r14_Right.bits8 (fun HT_ HW_ => ?_)
           generalize w26.drew = w27 at BK312 BK314 BK315 HB hHeld ⊢
           refine pu 0 ?_
           refine ta 1 hHeld ?_
           refine pu 2 ?_
           refine pu 3 ?_
           refine pu 4 ?_
           refine pu 5 ?_
           refine pu 7 ?_
           refine pu 9 ?_
           refine ta 6 hHeld ?_
           refine ta 8 hHeld ?_
           refine ta 10 hHeld ?_
           refine on1 11 (fun K hK => ?_)
           refine gs Try.func22 #[.agg #[.int .u64 a0_0, .int .u64 a0_1], .string ((rd_T60 l0_3 x3_2).f0)] ?_
           with_reducible refine (r05_Sum.calls k2 a0_0 a0_1 ((rd_T60 l0_3 x3_2).f0) t316 _ A24.out).mono ?_
           rintro e w28 ⟨rfl, hb⟩
           refine ⟨_, rfl, ?_⟩
           replace BK312 := am (blk_below (pk BK312.out) hb);replace BK314 := am (blk_below (pk BK314.out) hb);replace BK315 := am (blk_below (pk BK315.out) hb);replace HB := am (below_step (pb HB) hb)
           (try clear hb)
           (try clear hb2)
           (try clear hk)
           (try clear hi)
           refine hK.out _ _ ⟨ce BK314 0, ce BK314 1, ce BK314 2, ce BK314 3, ce BK312 0, ce BK312 1, ce BK312 2, ce BK312 3, ce BK315 0, ce BK315 1⟩ (fun hHeld => ?_)
           clear hK K
           refine nm ?_
           refine pu 12 ?_
           refine pu 13 ?_
           refine pu 14 ?_
           refine pu 15 ?_
           refine ta 16 hHeld ?_
           refine ta 17 hHeld ?_
           refine pu 18 ?_
           refine pu 19 ?_
           refine done_ (done_of HT_.out (by kernel_rfl)) ?_
           try go_wp2
           go_meet
           case rel => exact ⟨_, ((((rd_T60 l0_3 x3_2).f2.f0) == 0 && (((rd_T60 l0_3 x3_2).f2.f1) == 0))), (by first | rfl | (simp; done) | (simp [*]; done)), H', ⟨by have := HJ1.out; have := HK2.out; first | omega | exact Nat.le_refl _⟩, ⟨pk BK312.out⟩, ⟨pk BK314.out⟩, ⟨pk BK315.out⟩, ⟨pb HB⟩⟩
          ·rw [if_neg c25] at H;have c25b0 : (((rd_T60 l0_3 x3_2).f1) == t316) = false := beq_eq_false_iff_ne.mpr c25;have c25b1 : (((rd_T60 l0_3 x3_2).f1) != t316) = true := bne_iff_ne.mpr c25;have H' := am H;clear H
           try go_wp2
           have n0_ : Aside0 (((w17.setCell ⟨gb315, 0, none⟩ (.int .u64 0)).setCell ⟨gb315, 1, none⟩ (.int .u64 0)).heap[gb312]? = some (.cells #[.int .u64 a0_0, .int .u64 a0_1, .int .i64 a0_2, .slice (some ad313) l0_3.length c0_3] 30 (0, 0))) := ⟨by refine pk ?_; refine blk_far ?_ NB312_315.out _; refine pk ?_; refine blk_far ?_ NB312_315.out _; refine pk ?_; exact BK312.out⟩;have n1_ : Aside0 (((w17.setCell ⟨gb315, 0, none⟩ (.int .u64 0)).setCell ⟨gb315, 1, none⟩ (.int .u64 0)).heap[gb314]? = some (.cells #[.string ((rd_T60 l0_3 x3_2).f0), .int .u64 ((rd_T60 l0_3 x3_2).f1), .int .u64 ((rd_T60 l0_3 x3_2).f2.f0), .int .u64 ((rd_T60 l0_3 x3_2).f2.f1)] 60 (0, 0))) := ⟨by refine pk ?_; refine blk_far ?_ NB314_315.out _; refine pk ?_; refine blk_far ?_ NB314_315.out _; refine pk ?_; exact BK314.out⟩;have n2_ : Aside0 (((w17.setCell ⟨gb315, 0, none⟩ (.int .u64 0)).setCell ⟨gb315, 1, none⟩ (.int .u64 0)).heap[gb315]? = some (.cells #[.int .u64 0, .int .u64 0] 50 (0, 0))) := ⟨by refine pk ?_; refine blk_put (cs := #[.int .u64 0, .int .u64 0]) ?_ 1 _ rfl; refine pk ?_; refine blk_put (cs := #[.int .u64 0, .int .u64 0]) ?_ 0 _ rfl; refine pk ?_; exact BK315.out⟩;have n3_ : Aside0 (Below w.heap.size w ((w17.setCell ⟨gb315, 0, none⟩ (.int .u64 0)).setCell ⟨gb315, 1, none⟩ (.int .u64 0))) := ⟨pb HB⟩
           (try clear BK312)
           (try clear BK314)
           (try clear BK315)
           (try clear HB)
           generalize ((w17.setCell ⟨gb315, 0, none⟩ (.int .u64 0)).setCell ⟨gb315, 1, none⟩ (.int .u64 0)) = w29 at n0_ n1_ n2_ n3_ ⊢
           have BK312 := n0_;have BK314 := n1_;have BK315 := n2_;have HB := n3_;clear n0_ n1_ n2_ n3_;replace BK312 := am (blk_drew BK312.out);replace BK314 := am (blk_drew BK314.out);replace BK315 := am (blk_drew BK315.out);replace HB := am (below_drew1 HB.out)
           refine start_ (n := 20) (S := fun w' => w'.cell? ⟨gb314, 0, none⟩ = some (.string ((rd_T60 l0_3 x3_2).f0)) ∧ w'.cell? ⟨gb314, 1, none⟩ = some (.int .u64 ((rd_T60 l0_3 x3_2).f1)) ∧ w'.cell? ⟨gb314, 2, none⟩ = some (.int .u64 ((rd_T60 l0_3 x3_2).f2.f0)) ∧ w'.cell? ⟨gb314, 3, none⟩ = some (.int .u64 ((rd_T60 l0_3 x3_2).f2.f1)) ∧ w'.cell? ⟨gb312, 0, none⟩ = some (.int .u64 a0_0) ∧ w'.cell? ⟨gb312, 1, none⟩ = some (.int .u64 a0_1) ∧ w'.cell? ⟨gb312, 2, none⟩ = some (.int .i64 a0_2) ∧ w'.cell? ⟨gb312, 3, none⟩ = some (.slice (some ad313) l0_3.length c0_3)) (ds := []) #[false, false, false, false, false, false, false, false, false, false, false, false, false, false, false, false, false, false, false, false] (by kernel_rfl) rfl rfl ⟨ce BK314 0, ce BK314 1, ce BK314 2, ce BK314 3, ce BK312 0, ce BK312 1, ce BK312 2, ce BK312 3⟩ (fun hHeld => ?_); refine with_tabW r14_Right.tab8 r14_Right.bits8 (fun HT_ HW_ => ?_)
           generalize w29.drew = w30 at BK312 BK314 BK315 HB hHeld ⊢
           refine pu 0 ?_
           refine ta 1 hHeld ?_
           refine pu 2 ?_
           refine pu 3 ?_
           refine pu 4 ?_
           refine pu 5 ?_
           refine pu 7 ?_
           refine pu 9 ?_
           refine ta 6 hHeld ?_
           refine ta 8 hHeld ?_
           refine ta 10 hHeld ?_
           refine on1 11 (fun K hK => ?_)
           refine gs Try.func22 #[.agg #[.int .u64 a0_0, .int .u64 a0_1], .string ((rd_T60 l0_3 x3_2).f0)] ?_
           with_reducible refine (r05_Sum.calls k2 a0_0 a0_1 ((rd_T60 l0_3 x3_2).f0) t316 _ A24.out).mono ?_
           rintro e w31 ⟨rfl, hb⟩
           refine ⟨_, rfl, ?_⟩
           replace BK312 := am (blk_below (pk BK312.out) hb);replace BK314 := am (blk_below (pk BK314.out) hb);replace BK315 := am (blk_below (pk BK315.out) hb);replace HB := am (below_step (pb HB) hb)
           (try clear hb)
           (try clear hb2)
           (try clear hk)
           (try clear hi)
           refine hK.out _ _ ⟨ce BK314 0, ce BK314 1, ce BK314 2, ce BK314 3, ce BK312 0, ce BK312 1, ce BK312 2, ce BK312 3⟩ (fun hHeld => ?_)
           clear hK K
           refine nm ?_
           refine pu 12 ?_
           refine pu 13 ?_
           refine pu 14 ?_
           refine po 15 ?_
           refine po 16 ?_
           refine po 17 ?_
           refine po 18 ?_
           refine pu 19 ?_
           refine done_ (done_of HT_.out (by kernel_rfl)) ?_
           try go_wp2
           go_meet
           case rel => exact ⟨_, (true), (by first | rfl | (simp; done) | (simp [*]; done)), H', ⟨by have := HJ1.out; have := HK2.out; first | omega | exact Nat.le_refl _⟩, ⟨pk BK312.out⟩, ⟨pk BK314.out⟩, ⟨pk BK315.out⟩, ⟨pb HB⟩⟩
        case rest =>
         clear HC12;(try clear c1);(try clear c2);(try clear p2);(try clear p3);(try clear q3);(try clear c15);(try clear c18);(try clear c19);(try clear c21);(try clear c21b0);(try clear c21b1);(try clear c22);(try clear c25);(try clear c25b0);(try clear c25b1);(try clear p31);(try clear q31);(try clear hcz16_0 hcz16_1 hcz16_2 hcz16_3);(try clear hcz20_0 hcz20_1);(try clear hfz16_0 hfz16_1 hfz16_2 hfz16_3);(try clear hfz20_0 hfz20_1);(try clear p313);(try clear q313);obtain ⟨kq, x55_11, rfl, HA, HJ11, BK312, BK314, BK315, HB⟩ := hcut
         cases kq with
         | zero => exact absurd HA.out (by simp [r14_Right.j2])
         | succ kj11 =>
          have H := HA.out;clear HA
          simp only [r14_Right.j2] at H
          by_cases c32 : x55_11 = true
          ·subst c32
           have H1 : (some false) = some r := by rw [if_pos rfl] at H; exact H
           clear H;have H := H1;clear H1;obtain rfl := Option.some.inj H
           go_wp2
           go_ret
           exact ⟨by first | rfl | (simp [errW_none, errW_some] <;> rfl) | (simp [*, errW_none, errW_some] <;> rfl), pb HB⟩
          ·replace c32 := Bool.eq_false_iff.mpr c32;subst c32
           have H1 : (if x3_2 > 0 then (if 0 ≤ (wrap64 (x3_2 - 1)) then (if (wrap64 (x3_2 - 1)) < (l0_3.length : Int) then ((r14_Ahead.f ((rd_T60 l0_3 (wrap64 (x3_2 - 1))).f0) ((rd_T60 l0_3 (wrap64 (x3_2 - 1))).f1) ((rd_T60 l0_3 (wrap64 (x3_2 - 1))).f2.f0) ((rd_T60 l0_3 (wrap64 (x3_2 - 1))).f2.f1) ((rd_T60 l0_3 x3_2).f0) ((rd_T60 l0_3 x3_2).f1) ((rd_T60 l0_3 x3_2).f2.f0) ((rd_T60 l0_3 x3_2).f2.f1)).bind fun t318 => (if t318 = true then (r14_Right.l0 kj11 (wrap64 (x3_2 + 1)) a0_0 a0_1 a0_2 l0_3) else (some false))) else (none)) else (none)) else (r14_Right.l0 kj11 (wrap64 (x3_2 + 1)) a0_0 a0_1 a0_2 l0_3)) = some r := by rw [if_neg (show ¬ (false = true) by decide)] at H; exact H
           clear H;have H := H1;clear H1
           by_cases c33 : x3_2 > 0
           ·rw [if_pos c33] at H;have c33b0 : decide (0 < x3_2) = true := decide_eq_true c33;clear c33;obtain ⟨ji34, hji34⟩ : ∃ j_ : Int, (wrap64 (x3_2 - 1)) = j_ := ⟨_, rfl⟩
            replace H : (if 0 ≤ (ji34) then (if (ji34) < (l0_3.length : Int) then ((r14_Ahead.f ((rd_T60 l0_3 (ji34)).f0) ((rd_T60 l0_3 (ji34)).f1) ((rd_T60 l0_3 (ji34)).f2.f0) ((rd_T60 l0_3 (ji34)).f2.f1) ((rd_T60 l0_3 x3_2).f0) ((rd_T60 l0_3 x3_2).f1) ((rd_T60 l0_3 x3_2).f2.f0) ((rd_T60 l0_3 x3_2).f2.f1)).bind fun t318 => (if t318 = true then (r14_Right.l0 kj11 (wrap64 (x3_2 + 1)) a0_0 a0_1 a0_2 l0_3) else (some false))) else (none)) else (none)) = some r := by first | (rw [hji34] at H; exact H) | (simp only [hji34] at H ⊢; exact H)
            have hji34w : (IntKind.i64.wrap (x3_2 - 1)) = ji34 := (i64_w _).trans hji34
            by_cases c35 : 0 ≤ (ji34)
            ·rw [if_pos c35] at H;have c35b0 : decide (0 ≤ (ji34)) = true := decide_eq_true c35;clear c35
             by_cases c36 : (ji34) < (l0_3.length : Int)
             ·rw [if_pos c36] at H;have c36b0 : decide ((ji34) < (l0_3.length : Int)) = true := decide_eq_true c36;clear c36;replace H := Option.bind_eq_some_iff.mp H;obtain ⟨t318, A370, H⟩ := H
              try dsimp only at H
              have A37 := am A370;clear A370
              by_cases c38 : t318 = true
              ·subst c38
               have H1 : (r14_Right.l0 kj11 (wrap64 (x3_2 + 1)) a0_0 a0_1 a0_2 l0_3) = some r := by rw [if_pos rfl] at H; exact H
               clear H;have H := H1;clear H1;have H' := am H;clear H
               try go_wp2
               replace BK312 := am (blk_drew BK312.out);replace BK314 := am (blk_drew BK314.out);replace BK315 := am (blk_drew BK315.out);replace HB := am (below_drew1 HB.out);have p317 : 0 ≤ ((ji34) : Int) := of_decide_eq_true (by first | (with_reducible assumption) | assumption);have q317 : (ji34) < (l0_3.length : Int) := of_decide_eq_true (by first | (with_reducible assumption) | assumption);obtain ⟨ad317, e317, hx317_0, hx317_1, hx317_2, hx317_3⟩ := at_T60 HR0_3.out (ji34) p317 q317;have hw317_3 := hx317_3;have hw317_2 := hx317_2;have hw317_1 := hx317_1;have hw317_0 := hx317_0;obtain rfl : ad313 = ad317 := (by injection e317);replace hx317_0 := (HB.out.cell (World.block_lt_of_cell? w _ hx317_0)).trans hx317_0;replace hx317_1 := (HB.out.cell (World.block_lt_of_cell? w _ hx317_1)).trans hx317_1;replace hx317_2 := (HB.out.cell (World.block_lt_of_cell? w _ hx317_2)).trans hx317_2;replace hx317_3 := (HB.out.cell (World.block_lt_of_cell? w _ hx317_3)).trans hx317_3;replace p317 := eq_true p317;replace q317 := eq_true q317
               refine start_ (n := 13) (S := fun w' => w'.cell? ⟨gb312, 0, none⟩ = some (.int .u64 a0_0) ∧ w'.cell? ⟨gb312, 1, none⟩ = some (.int .u64 a0_1) ∧ w'.cell? ⟨gb312, 2, none⟩ = some (.int .i64 a0_2) ∧ w'.cell? ⟨gb312, 3, none⟩ = some (.slice (some ad313) l0_3.length c0_3) ∧ w'.cell? ⟨gb314, 0, none⟩ = some (.string ((rd_T60 l0_3 x3_2).f0)) ∧ w'.cell? ⟨gb314, 1, none⟩ = some (.int .u64 ((rd_T60 l0_3 x3_2).f1)) ∧ w'.cell? ⟨gb314, 2, none⟩ = some (.int .u64 ((rd_T60 l0_3 x3_2).f2.f0)) ∧ w'.cell? ⟨gb314, 3, none⟩ = some (.int .u64 ((rd_T60 l0_3 x3_2).f2.f1)) ∧ w'.cell? (ad313.add (((ji34)).toNat * 4)) = some (.string ((rd_T60 l0_3 (ji34)).f0)) ∧ w'.cell? ⟨(ad313.add (((ji34)).toNat * 4)).block, (ad313.add (((ji34)).toNat * 4)).off + 1, none⟩ = some (.int .u64 ((rd_T60 l0_3 (ji34)).f1)) ∧ w'.cell? ⟨(ad313.add (((ji34)).toNat * 4)).block, (ad313.add (((ji34)).toNat * 4)).off + 2, none⟩ = some (.int .u64 ((rd_T60 l0_3 (ji34)).f2.f0)) ∧ w'.cell? ⟨(ad313.add (((ji34)).toNat * 4)).block, (ad313.add (((ji34)).toNat * 4)).off + 3, none⟩ = some (.int .u64 ((rd_T60 l0_3 (ji34)).f2.f1))) (ds := []) #[false, false, false, false, false, false, false, false, false, false, false, false, false] (by kernel_rfl) rfl rfl ⟨ce BK312 0, ce BK312 1, ce BK312 2, ce BK312 3, ce BK314 0, ce BK314 1, ce BK314 2, ce BK314 3, ((HB.out.cell (World.block_lt_of_cell? w _ hw317_0)).trans hw317_0), ((HB.out.cell (World.block_lt_of_cell? w _ hw317_1)).trans hw317_1), ((HB.out.cell (World.block_lt_of_cell? w _ hw317_2)).trans hw317_2), ((HB.out.cell (World.block_lt_of_cell? w _ hw317_3)).trans hw317_3)⟩ (fun hHeld => ?_); refine with_tabW r14_Right.tab10 r14_Right.bits10 (fun HT_ HW_ => ?_)
               generalize wc.drew = w39 at BK312 BK314 BK315 HB hx317_0 hx317_1 hx317_2 hx317_3 hHeld ⊢
               refine pu 0 ?_
               refine pu 1 ?_
               refine pu 2 ?_
               refine pu 3 ?_
               refine pu 5 ?_
               refine pu 6 ?_
               refine ta 4 hHeld ?_
               refine pu 7 ?_
               refine ta 8 hHeld ?_
               refine ta 9 hHeld ?_
               refine on1 10 (fun K hK => ?_)
               refine goes_ Try.func23 (by kernel_rfl) rfl #[.agg #[.string ((rd_T60 l0_3 (ji34)).f0), .int .u64 ((rd_T60 l0_3 (ji34)).f1), .int .u64 ((rd_T60 l0_3 (ji34)).f2.f0), .int .u64 ((rd_T60 l0_3 (ji34)).f2.f1)], .agg #[.string ((rd_T60 l0_3 x3_2).f0), .int .u64 ((rd_T60 l0_3 x3_2).f1), .int .u64 ((rd_T60 l0_3 x3_2).f2.f0), .int .u64 ((rd_T60 l0_3 x3_2).f2.f1)]] (by rfl) rfl rfl (by (try simp only [List.map_toArray, List.map_cons, List.map_nil]); first | done | (simp only [hji34]; rfl) | rfl | (simp only [List.length_drop, List.length_take]; rfl)) ?_
               with_reducible refine (r14_Ahead.calls ((rd_T60 l0_3 (ji34)).f0) ((rd_T60 l0_3 (ji34)).f1) ((rd_T60 l0_3 (ji34)).f2.f0) ((rd_T60 l0_3 (ji34)).f2.f1) ((rd_T60 l0_3 x3_2).f0) ((rd_T60 l0_3 x3_2).f1) ((rd_T60 l0_3 x3_2).f2.f0) ((rd_T60 l0_3 x3_2).f2.f1) true _ A37.out).mono ?_
               rintro e w40 ⟨rfl, hb⟩
               refine ⟨_, rfl, ?_⟩
               replace BK312 := am (blk_below (pk BK312.out) hb);replace BK314 := am (blk_below (pk BK314.out) hb);replace BK315 := am (blk_below (pk BK315.out) hb);replace HB := am (below_step (pb HB) hb)
               (try clear hb)
               (try clear hb2)
               (try clear hk)
               (try clear hi)
               refine hK.out _ _ ⟨ce BK312 0, ce BK312 1, ce BK312 2, ce BK312 3, ce BK314 0, ce BK314 1, ce BK314 2, ce BK314 3, ((HB.out.cell (World.block_lt_of_cell? w _ hw317_0)).trans hw317_0), ((HB.out.cell (World.block_lt_of_cell? w _ hw317_1)).trans hw317_1), ((HB.out.cell (World.block_lt_of_cell? w _ hw317_2)).trans hw317_2), ((HB.out.cell (World.block_lt_of_cell? w _ hw317_3)).trans hw317_3)⟩ (fun hHeld => ?_)
               clear hK K
               refine nm ?_
               refine pu 11 ?_
               refine pu 12 ?_
               refine done_ (done_of HT_.out (by kernel_rfl)) ?_
               try go_wp2
               go_roundg kj11
               case measure => have := HJ1.out; have := HK2.out; have := HJ11.out; omega
               case rel => exact ⟨(wrap64 (x3_2 + 1)), (by first | rfl | (simp; done) | (simp [*]; done)), H', ⟨by have := HJ1.out; have := HK2.out; have := HJ11.out; omega⟩, ⟨pk BK312.out⟩, ⟨pb HB⟩⟩
              ·replace c38 := Bool.eq_false_iff.mpr c38;subst c38
               have H1 : (some false) = some r := by rw [if_neg (show ¬ (false = true) by decide)] at H; exact H
               clear H;have H := H1;clear H1;obtain rfl := Option.some.inj H
               try go_wp2
               replace BK312 := am (blk_drew BK312.out);replace BK314 := am (blk_drew BK314.out);replace BK315 := am (blk_drew BK315.out);replace HB := am (below_drew1 HB.out);have p317 : 0 ≤ ((ji34) : Int) := of_decide_eq_true (by first | (with_reducible assumption) | assumption);have q317 : (ji34) < (l0_3.length : Int) := of_decide_eq_true (by first | (with_reducible assumption) | assumption);obtain ⟨ad317, e317, hx317_0, hx317_1, hx317_2, hx317_3⟩ := at_T60 HR0_3.out (ji34) p317 q317;have hw317_3 := hx317_3;have hw317_2 := hx317_2;have hw317_1 := hx317_1;have hw317_0 := hx317_0;obtain rfl : ad313 = ad317 := (by injection e317);replace hx317_0 := (HB.out.cell (World.block_lt_of_cell? w _ hx317_0)).trans hx317_0;replace hx317_1 := (HB.out.cell (World.block_lt_of_cell? w _ hx317_1)).trans hx317_1;replace hx317_2 := (HB.out.cell (World.block_lt_of_cell? w _ hx317_2)).trans hx317_2;replace hx317_3 := (HB.out.cell (World.block_lt_of_cell? w _ hx317_3)).trans hx317_3;replace p317 := eq_true p317;replace q317 := eq_true q317
               refine start_ (n := 13) (S := fun w' => w'.cell? ⟨gb312, 0, none⟩ = some (.int .u64 a0_0) ∧ w'.cell? ⟨gb312, 1, none⟩ = some (.int .u64 a0_1) ∧ w'.cell? ⟨gb312, 2, none⟩ = some (.int .i64 a0_2) ∧ w'.cell? ⟨gb312, 3, none⟩ = some (.slice (some ad313) l0_3.length c0_3) ∧ w'.cell? ⟨gb314, 0, none⟩ = some (.string ((rd_T60 l0_3 x3_2).f0)) ∧ w'.cell? ⟨gb314, 1, none⟩ = some (.int .u64 ((rd_T60 l0_3 x3_2).f1)) ∧ w'.cell? ⟨gb314, 2, none⟩ = some (.int .u64 ((rd_T60 l0_3 x3_2).f2.f0)) ∧ w'.cell? ⟨gb314, 3, none⟩ = some (.int .u64 ((rd_T60 l0_3 x3_2).f2.f1)) ∧ w'.cell? (ad313.add (((ji34)).toNat * 4)) = some (.string ((rd_T60 l0_3 (ji34)).f0)) ∧ w'.cell? ⟨(ad313.add (((ji34)).toNat * 4)).block, (ad313.add (((ji34)).toNat * 4)).off + 1, none⟩ = some (.int .u64 ((rd_T60 l0_3 (ji34)).f1)) ∧ w'.cell? ⟨(ad313.add (((ji34)).toNat * 4)).block, (ad313.add (((ji34)).toNat * 4)).off + 2, none⟩ = some (.int .u64 ((rd_T60 l0_3 (ji34)).f2.f0)) ∧ w'.cell? ⟨(ad313.add (((ji34)).toNat * 4)).block, (ad313.add (((ji34)).toNat * 4)).off + 3, none⟩ = some (.int .u64 ((rd_T60 l0_3 (ji34)).f2.f1))) (ds := []) #[false, false, false, false, false, false, false, false, false, false, false, false, false] (by kernel_rfl) rfl rfl ⟨ce BK312 0, ce BK312 1, ce BK312 2, ce BK312 3, ce BK314 0, ce BK314 1, ce BK314 2, ce BK314 3, ((HB.out.cell (World.block_lt_of_cell? w _ hw317_0)).trans hw317_0), ((HB.out.cell (World.block_lt_of_cell? w _ hw317_1)).trans hw317_1), ((HB.out.cell (World.block_lt_of_cell? w _ hw317_2)).trans hw317_2), ((HB.out.cell (World.block_lt_of_cell? w _ hw317_3)).trans hw317_3)⟩ (fun hHeld => ?_); refine with_tabW r14_Right.tab10 r14_Right.bits10 (fun HT_ HW_ => ?_)
               generalize wc.drew = w41 at BK312 BK314 BK315 HB hx317_0 hx317_1 hx317_2 hx317_3 hHeld ⊢
               refine pu 0 ?_
               refine pu 1 ?_
               refine pu 2 ?_
               refine pu 3 ?_
               refine pu 5 ?_
               refine pu 6 ?_
               refine ta 4 hHeld ?_
               refine pu 7 ?_
               refine ta 8 hHeld ?_
               refine ta 9 hHeld ?_
               refine on1 10 (fun K hK => ?_)
               refine goes_ Try.func23 (by kernel_rfl) rfl #[.agg #[.string ((rd_T60 l0_3 (ji34)).f0), .int .u64 ((rd_T60 l0_3 (ji34)).f1), .int .u64 ((rd_T60 l0_3 (ji34)).f2.f0), .int .u64 ((rd_T60 l0_3 (ji34)).f2.f1)], .agg #[.string ((rd_T60 l0_3 x3_2).f0), .int .u64 ((rd_T60 l0_3 x3_2).f1), .int .u64 ((rd_T60 l0_3 x3_2).f2.f0), .int .u64 ((rd_T60 l0_3 x3_2).f2.f1)]] (by rfl) rfl rfl (by (try simp only [List.map_toArray, List.map_cons, List.map_nil]); first | done | (simp only [hji34]; rfl) | rfl | (simp only [List.length_drop, List.length_take]; rfl)) ?_
               with_reducible refine (r14_Ahead.calls ((rd_T60 l0_3 (ji34)).f0) ((rd_T60 l0_3 (ji34)).f1) ((rd_T60 l0_3 (ji34)).f2.f0) ((rd_T60 l0_3 (ji34)).f2.f1) ((rd_T60 l0_3 x3_2).f0) ((rd_T60 l0_3 x3_2).f1) ((rd_T60 l0_3 x3_2).f2.f0) ((rd_T60 l0_3 x3_2).f2.f1) false _ A37.out).mono ?_
               rintro e w42 ⟨rfl, hb⟩
               refine ⟨_, rfl, ?_⟩
               replace BK312 := am (blk_below (pk BK312.out) hb);replace BK314 := am (blk_below (pk BK314.out) hb);replace BK315 := am (blk_below (pk BK315.out) hb);replace HB := am (below_step (pb HB) hb)
               (try clear hb)
               (try clear hb2)
               (try clear hk)
               (try clear hi)
               refine hK.out _ _ ⟨ce BK312 0, ce BK312 1, ce BK312 2, ce BK312 3, ce BK314 0, ce BK314 1, ce BK314 2, ce BK314 3, ((HB.out.cell (World.block_lt_of_cell? w _ hw317_0)).trans hw317_0), ((HB.out.cell (World.block_lt_of_cell? w _ hw317_1)).trans hw317_1), ((HB.out.cell (World.block_lt_of_cell? w _ hw317_2)).trans hw317_2), ((HB.out.cell (World.block_lt_of_cell? w _ hw317_3)).trans hw317_3)⟩ (fun hHeld => ?_)
               clear hK K
               refine nm ?_
               refine pu 11 ?_
               refine pu 12 ?_
               refine done_ (done_of HT_.out (by kernel_rfl)) ?_
               try go_wp2
               go_ret
               exact ⟨by first | rfl | (simp [errW_none, errW_some] <;> rfl) | (simp only [← hji34]; first | rfl | (simp [errW_none, errW_some] <;> rfl)) | (simp [*, errW_none, errW_some] <;> rfl), pb HB⟩
             ·rw [if_neg c36] at H;exact absurd H (by simp)
            ·rw [if_neg c35] at H;exact absurd H (by simp)
           ·rw [if_neg c33] at H;have c33b0 : decide (0 < x3_2) = false := decide_eq_false c33;clear c33;have H' := am H;clear H
            try go_wp2
            replace BK312 := am (blk_drew BK312.out);replace BK314 := am (blk_drew BK314.out);replace BK315 := am (blk_drew BK315.out);replace HB := am (below_drew1 HB.out)
            refine start_ (n := 13) (S := fun w' => True) (ds := []) #[false, false, false, false, false, false, false, false, false, false, false, false, false] (by kernel_rfl) rfl rfl trivial (fun hHeld => ?_); refine with_tabW r14_Right.tab10 r14_Right.bits10 (fun HT_ HW_ => ?_)
            generalize wc.drew = w43 at BK312 BK314 BK315 HB hHeld ⊢
            refine pu 0 ?_
            refine pu 1 ?_
            refine pu 2 ?_
            refine po 3 ?_
            refine po 4 ?_
            refine po 5 ?_
            refine po 6 ?_
            refine po 7 ?_
            refine po 8 ?_
            refine po 9 ?_
            refine po 10 ?_
            refine po 11 ?_
            refine pu 12 ?_
            refine done_ (done_of HT_.out (by kernel_rfl)) ?_
            try go_wp2
            go_roundg kj11
            case measure => have := HJ1.out; have := HK2.out; have := HJ11.out; omega
            case rel => exact ⟨(wrap64 (x3_2 + 1)), (by first | rfl | (simp; done) | (simp [*]; done)), H', ⟨by have := HJ1.out; have := HK2.out; have := HJ11.out; omega⟩, ⟨pk BK312.out⟩, ⟨pb HB⟩⟩
       ·rw [if_neg c11] at H;exact absurd H (by simp)
      ·rw [if_neg c10] at H;have c10b0 : decide (x3_2 < (l0_3.length : Int)) = false := decide_eq_false c10;clear c10;obtain rfl := Option.some.inj H;obtain ⟨hcz44_0, hcz44_1, hcz44_2, hcz44_3, hfz44_0, hfz44_1, hfz44_2, hfz44_3⟩ := g4 BK312
       go_wp2
       go_ret
       exact ⟨by first | rfl | (simp [errW_none, errW_some] <;> rfl) | (simp [*, errW_none, errW_some] <;> rfl), pb HB⟩
end Go.Proofs.Ytmfffbafldbihaa.H
