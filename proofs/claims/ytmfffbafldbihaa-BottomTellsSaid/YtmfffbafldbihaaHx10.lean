import Derived.Test.YtmfffbafldbihaaHx0
import Derived.Test.YtmfffbafldbihaaHx3
import Derived.Test.YtmfffbafldbihaaHx4
import Derived.Test.YtmfffbafldbihaaHx9
namespace Go.Proofs.Ytmfffbafldbihaa.H
open Go.RowKit Go.Proofs.YtmfffbafldbihaaW.PrintWords Go.Proofs.YtmfffbafldbihaaW.PrintLast Go.Proofs.YtmfffbafldbihaaW.PrintMore Go.Proofs.YtmfffbafldbihaaW.Sq
attribute [local go_sem] max2_int min2_int max_two min_two max_three min_three max_four min_four
set_option linter.unusedVariables false
set_option linter.unusedSimpArgs false

attribute [local go_sem high] eqA50
mutual
def bottom_Right.j0 : Nat → Bool → Int → Int → Int → List (S62) → Option (Bool)
 | 0, _, _, _, _, _ => none
 | k + 1, x21, x183000, x183001, x183002, x183003 => if x21 = true then (some false) else (bottom_Right.l0 k x183003 (x183003.length : Int) 0 x183000 x183001 x183002 x183003)
def bottom_Right.l0 : Nat → List (S62) → Int → Int → Int → Int → Int → List (S62) → Option (Bool)
 | 0, _, _, _, _, _, _, _ => none
 | k + 1, x23, x24, x25, x183000, x183001, x183002, x183003 => if x25 < x24 then (if 0 ≤ x25 then (if x25 < (x23.length : Int) then (if (((rd_T62 x23 x25).f0).size : Int) > 64 then (some false) else ((sip_Sum.f k x183000 x183001 ((rd_T62 x23 x25).f0)).bind fun t185 => (if ((rd_T62 x23 x25).f1) = t185 then (if (((rd_T62 x23 x25).f2.f0) == 0 && (((rd_T62 x23 x25).f2.f1) == 0)) = true then (some false) else (if x25 > 0 then (if 0 ≤ (wrap64 (x25 - 1)) then (if (wrap64 (x25 - 1)) < (x183003.length : Int) then ((bottom_compare.f k ((rd_T62 x183003 (wrap64 (x25 - 1))).f0) ((rd_T62 x183003 (wrap64 (x25 - 1))).f1) ((rd_T62 x183003 (wrap64 (x25 - 1))).f2.f0) ((rd_T62 x183003 (wrap64 (x25 - 1))).f2.f1) ((rd_T62 x23 x25).f0) ((rd_T62 x23 x25).f1) ((rd_T62 x23 x25).f2.f0) ((rd_T62 x23 x25).f2.f1)).bind fun t187 => (if t187 ≥ 0 then (some false) else (bottom_Right.l0 k x23 x24 (wrap64 (x25 + 1)) x183000 x183001 x183002 x183003))) else (none)) else (none)) else (bottom_Right.l0 k x23 x24 (wrap64 (x25 + 1)) x183000 x183001 x183002 x183003))) else (some false)))) else (none)) else (none)) else (some true)
end
def bottom_Right.f (k : Nat) (a0_0 : Int) (a0_1 : Int) (a0_2 : Int) (l0_3 : List (S62)) : Option (Bool) := if a0_2 < 1 then (bottom_Right.j0 k true a0_0 a0_1 a0_2 l0_3) else (if a0_2 > 1024 then (bottom_Right.j0 k true a0_0 a0_1 a0_2 l0_3) else (bottom_Right.j0 k (decide ((l0_3.length : Int) > (wrap64 (a0_2 + 1)))) a0_0 a0_1 a0_2 l0_3))
theorem bottom_Right.mono_l : ∀ k, (∀ y0 y1 y2 y3 y4, LeO (bottom_Right.j0 k y0 y1 y2 y3 y4) (bottom_Right.j0 (k + 1) y0 y1 y2 y3 y4)) ∧ (∀ y0 y1 y2 y3 y4 y5 y6, LeO (bottom_Right.l0 k y0 y1 y2 y3 y4 y5 y6) (bottom_Right.l0 (k + 1) y0 y1 y2 y3 y4 y5 y6))
 | 0 => ⟨fun _ _ _ _ _ r h => by simp [bottom_Right.j0] at h, fun _ _ _ _ _ _ _ r h => by simp [bottom_Right.l0] at h⟩
 | k + 1 => by
  obtain ⟨ih0, ih1⟩ := bottom_Right.mono_l k
  refine ⟨?_, ?_⟩
  ·intro y0 y1 y2 y3 y4
   unfold bottom_Right.j0
   repeat' first
   | (with_reducible exact ih0 _ _ _ _ _)
   | (with_reducible exact ih1 _ _ _ _ _ _ _)
   | (with_reducible exact bottom_compare.mono _ _ _ _ _ _ _ _ _)
   | (with_reducible exact sip_Sum.mono _ _ _ _)
   | (with_reducible exact LeO.refl _)
   | (with_reducible exact LeO.none _)
   | (with_reducible refine LeO.ite ?_ ?_)
   | (with_reducible refine LeO.bind ?_ (fun _ => ?_))
  ·intro y0 y1 y2 y3 y4 y5 y6
   unfold bottom_Right.l0
   repeat' first
   | (with_reducible exact ih0 _ _ _ _ _)
   | (with_reducible exact ih1 _ _ _ _ _ _ _)
   | (with_reducible exact bottom_compare.mono _ _ _ _ _ _ _ _ _)
   | (with_reducible exact sip_Sum.mono _ _ _ _)
   | (with_reducible exact LeO.refl _)
   | (with_reducible exact LeO.none _)
   | (with_reducible refine LeO.ite ?_ ?_)
   | (with_reducible refine LeO.bind ?_ (fun _ => ?_))
theorem bottom_Right.mono : ∀ a0 a1 a2 a3 k, LeO (bottom_Right.f k a0 a1 a2 a3) (bottom_Right.f (k + 1) a0 a1 a2 a3) := by
 intro a0 a1 a2 a3 k
 obtain ⟨ih0, ih1⟩ := bottom_Right.mono_l k
 unfold bottom_Right.f
 repeat' first
   | (with_reducible exact ih0 _ _ _ _ _)
   | (with_reducible exact ih1 _ _ _ _ _ _ _)
   | (with_reducible exact bottom_compare.mono _ _ _ _ _ _ _ _ _)
   | (with_reducible exact sip_Sum.mono _ _ _ _)
   | (with_reducible exact LeO.refl _)
   | (with_reducible exact LeO.none _)
   | (with_reducible refine LeO.ite ?_ ?_)
   | (with_reducible refine LeO.bind ?_ (fun _ => ?_))
def bottom_Right.T6 : Bool × List (List Nat × List Nat) := (true, [([], []), ([0], [0]), ([1], [1]), ([2], [2]), ([3], [3]), ([4], [4]), ([5, 4], [4, 5]), ([4], [4]), ([7, 4], [4, 7]), ([4], [4]), ([9, 4], [4, 9]), ([8, 10, 4, 4], [4, 8, 10]), ([6, 11, 4], [4, 6, 11]), ([4, 12], [4, 12]), ([13, 11], [13]), ([14], [14]), ([15, 14], [14, 15]), ([14], [14]), ([16, 17, 14], [14, 16, 17]), ([14, 18], [14, 18]), ([19, 14], [19]), ([20], [20]), ([21, 20], [20, 21]), ([22, 20, 20], [20, 22]), ([23], [23]), ([24, 23], [23, 24]), ([23], [23]), ([26, 23], [23, 26]), ([25, 27, 23], [23, 25, 27]), ([28, 23], [23, 28]), ([23], [23]), ([29, 30, 23, 23], [23, 29, 30]), ([31, 23], [23, 31]), ([23, 32, 20], [20, 23, 32]), ([20, 33], [20, 33])])
def bottom_Right.B6 : List Nat := [0, 1, 3, 7, 15, 31, 63, 31, 159, 31, 543, 1951, 4095, 8191, 16383, 32767, 65535, 32767, 262143, 524287, 1048575, 2097151, 4194303, 8388607, 16777215, 33554431, 16777215, 83886079, 268435455, 536870911, 16777215, 2147483647, 4294967295, 8589934591, 17179869183]
theorem bottom_Right.tab6 : rtab .any (opsOf Try.f21 6) = bottom_Right.T6 := by kernel_rfl
theorem bottom_Right.bits6 : waitsOk bottom_Right.T6.2 bottom_Right.B6 = true := by kernel_rfl
set_option maxHeartbeats 8000000 in
set_option maxRecDepth 100000 in
theorem bottom_Right.calls (k : Nat) (a0_0 : Int) (a0_1 : Int) (a0_2 : Int) (A0_3 : Option Addr) (c0_3 : Nat) (l0_3 : List (S62)) (r : Bool) (w : World) (hr0_3 : Kd.C k62 w A0_3 l0_3.length l0_3) (hc0_3 : l0_3.length ≤ c0_3) (h : bottom_Right.f k a0_0 a0_1 a0_2 l0_3 = some r) :
  Calls Try.prog 21 #[.agg #[.int .u64 a0_0, .int .u64 a0_1, .int .i64 a0_2, .slice A0_3 l0_3.length c0_3]] w fun e w' => e = .returned (.bool r) ∧ Below w.heap.size w w' := by
 have hu27 := Try.underlying27;have hu62 := Try.underlying62;have hu24 := Try.underlying24;have hu50 := Try.underlying50;have HR0_3 := am hr0_3;have HC0_3 := am hc0_3;clear hr0_3 hc0_3;have HB := am (Below.refl w.heap.size w);have H : (if a0_2 < 1 then (bottom_Right.j0 k true a0_0 a0_1 a0_2 l0_3) else (if a0_2 > 1024 then (bottom_Right.j0 k true a0_0 a0_1 a0_2 l0_3) else (bottom_Right.j0 k (decide ((l0_3.length : Int) > (wrap64 (a0_2 + 1)))) a0_0 a0_1 a0_2 l0_3))) = some r := h;clear h;have HC2 := am H;clear H
 go_enter Try.func21, Try.ntmps21
 go_upto_region 1 with (first | ((with_reducible refine gate_dst (N := 1) rfl ?_); (try (refine gate_guard (by rfl) ?_; dsimp only)); refine be 1 #[.int .u64 a0_0, .int .u64 a0_1, .int .i64 a0_2, .slice A0_3 l0_3.length c0_3] 27 ?_; intro gb182 hg w3 hbox hb; have BK182 := am (hbox); have GW182 := am ((pg hg HB : w.heap.size ≤ gb182)); have GE182 := am ((pg hg HB : w.heap.size ≤ gb182)); replace HB := am (below_step (pb HB) hb); clear hb hbox hg))
 (try simp only [Act.put, List.setIfInBounds_toArray, List.set_cons_zero, List.set_cons_succ])
 go_cut [21] (fun v21 wc => ∃ (kq : Nat) (x21_1 : Bool), v21 = .bool x21_1 ∧ Aside0 (bottom_Right.j0 kq x21_1 a0_0 a0_1 a0_2 l0_3 = some r) ∧ Aside0 (kq ≤ k) ∧ Aside0 (wc.heap[gb182]? = some (.cells #[.int .u64 a0_0, .int .u64 a0_1, .int .i64 a0_2, (.slice A0_3 l0_3.length c0_3)] 27 (0, 0))) ∧ Aside0 (Below w.heap.size w wc))
 case first =>
  have H := HC2.out;clear HC2
  by_cases c4 : a0_2 < 1
  ·rw [if_pos c4] at H;have c4b0 : decide (a0_2 < 1) = true := decide_eq_true c4;clear c4
   (first | rw [c4b0] | (simp only [i64_w, i32_w]; rw [c4b0]) | skip)
   have H' := am H;clear H;obtain ⟨hcz5_0, hcz5_1, hcz5_2, hcz5_3, hfz5_0, hfz5_1, hfz5_2, hfz5_3⟩ := g4 BK182
   go_wp2
   go_meet
   case rel => exact ⟨_, (true), (by first | rfl | (simp; done) | (simp [*]; done)), H', ⟨by first | omega | exact Nat.le_refl _⟩, ⟨pk BK182.out⟩, ⟨pb HB⟩⟩
  ·rw [if_neg c4] at H;have c4b0 : decide (a0_2 < 1) = false := decide_eq_false c4;clear c4
   (first | rw [c4b0] | (simp only [i64_w, i32_w]; rw [c4b0]) | skip)
   by_cases c6 : a0_2 > 1024
   ·rw [if_pos c6] at H;have c6b0 : decide (1024 < a0_2) = true := decide_eq_true c6;clear c6;have H' := am H;clear H;obtain ⟨hcz7_0, hcz7_1, hcz7_2, hcz7_3, hfz7_0, hfz7_1, hfz7_2, hfz7_3⟩ := g4 BK182
    go_wp2
    go_meet
    case rel => exact ⟨_, (true), (by first | rfl | (simp; done) | (simp [*]; done)), H', ⟨by first | omega | exact Nat.le_refl _⟩, ⟨pk BK182.out⟩, ⟨pb HB⟩⟩
   ·rw [if_neg c6] at H;have c6b0 : decide (1024 < a0_2) = false := decide_eq_false c6;clear c6;have H' := am H;clear H;obtain ⟨hcz8_0, hcz8_1, hcz8_2, hcz8_3, hfz8_0, hfz8_1, hfz8_2, hfz8_3⟩ := g4 BK182
    go_wp2
    go_meet
    case rel => exact ⟨_, (decide ((l0_3.length : Int) > (wrap64 (a0_2 + 1)))), (by first | rfl | (simp; done) | (simp [*]; done)), H', ⟨by first | omega | exact Nat.le_refl _⟩, ⟨pk BK182.out⟩, ⟨pb HB⟩⟩
 case rest =>
  clear HC2;(try clear c2);(try clear p2);(try clear c4);(try clear c4b0);(try clear c6);(try clear c6b0);(try clear p6);(try clear hcz5_0 hcz5_1 hcz5_2 hcz5_3);(try clear hcz7_0 hcz7_1 hcz7_2 hcz7_3);(try clear hcz8_0 hcz8_1 hcz8_2 hcz8_3);(try clear hfz5_0 hfz5_1 hfz5_2 hfz5_3);(try clear hfz7_0 hfz7_1 hfz7_2 hfz7_3);(try clear hfz8_0 hfz8_1 hfz8_2 hfz8_3);obtain ⟨kq, x21_1, rfl, HA, HJ1, BK182, HB⟩ := hcut
  cases kq with
  | zero => exact absurd HA.out (by simp [bottom_Right.j0])
  | succ kj1 =>
   have H := HA.out;clear HA
   simp only [bottom_Right.j0] at H
   by_cases c9 : x21_1 = true
   ·subst c9
    have H1 : (some false) = some r := by rw [if_pos rfl] at H; exact H
    clear H;have H := H1;clear H1;obtain rfl := Option.some.inj H
    go_wp2
    go_ret
    exact ⟨by first | rfl | (simp [errW_none, errW_some] <;> rfl) | (simp [*, errW_none, errW_some] <;> rfl), pb HB⟩
   ·replace c9 := Bool.eq_false_iff.mpr c9;subst c9
    have H1 : (bottom_Right.l0 kj1 l0_3 (l0_3.length : Int) 0 a0_0 a0_1 a0_2 l0_3) = some r := by rw [if_neg (show ¬ (false = true) by decide)] at H; exact H
    clear H;have H := H1;clear H1;have H' := am H;clear H;obtain ⟨hcz10_0, hcz10_1, hcz10_2, hcz10_3, hfz10_0, hfz10_1, hfz10_2, hfz10_3⟩ := g4 BK182
    go_wp2
    go_loopg [25] kj1 (fun kq v25 w' => ∃ (x25_2 : Int), v25 = .int .i64 x25_2 ∧ Aside0 (bottom_Right.l0 kq l0_3 (l0_3.length : Int) x25_2 a0_0 a0_1 a0_2 l0_3 = some r) ∧ Aside0 (kq ≤ kj1) ∧ Aside0 (w'.heap[gb182]? = some (.cells #[.int .u64 a0_0, .int .u64 a0_1, .int .i64 a0_2, (.slice A0_3 l0_3.length c0_3)] 27 (0, 0))) ∧ Aside0 (Below w.heap.size w w'))
    case atStart => exact ⟨(0), (by first | rfl | (simp; done) | (simp [*]; done)), H', ⟨Nat.le_refl _⟩, ⟨pk BK182.out⟩, ⟨pb HB⟩⟩
    case round =>
     clear H';(try clear c2);(try clear p2);(try clear c4);(try clear c4b0);(try clear c6);(try clear c6b0);(try clear p6);(try clear c9);(try clear hcz10_0 hcz10_1 hcz10_2 hcz10_3);(try clear hcz5_0 hcz5_1 hcz5_2 hcz5_3);(try clear hcz7_0 hcz7_1 hcz7_2 hcz7_3);(try clear hcz8_0 hcz8_1 hcz8_2 hcz8_3);(try clear hfz10_0 hfz10_1 hfz10_2 hfz10_3);(try clear hfz5_0 hfz5_1 hfz5_2 hfz5_3);(try clear hfz7_0 hfz7_1 hfz7_2 hfz7_3);(try clear hfz8_0 hfz8_1 hfz8_2 hfz8_3);(try clear p2);(try clear p6);obtain ⟨x25_2, rfl, HA, HK2, BK182, HB⟩ := hrel
     cases gk with
     | zero => exact absurd HA.out (by simp [bottom_Right.l0])
     | succ k2 =>
      have H := HA.out;clear HA
      simp only [bottom_Right.l0] at H
      by_cases c11 : x25_2 < (l0_3.length : Int)
      ·rw [if_pos c11] at H;have c11b0 : decide (x25_2 < (l0_3.length : Int)) = true := decide_eq_true c11;clear c11
       by_cases c12 : 0 ≤ x25_2
       ·rw [if_pos c12] at H;have c12b0 : decide (0 ≤ x25_2) = true := decide_eq_true c12;clear c12
        by_cases c13 : x25_2 < (l0_3.length : Int)
        ·rw [if_pos c13] at H;have c13b0 : decide (x25_2 < (l0_3.length : Int)) = true := decide_eq_true c13;clear c13
         by_cases c14 : (((rd_T62 l0_3 x25_2).f0).size : Int) > 64
         ·rw [if_pos c14] at H;have c14b0 : decide (64 < (((rd_T62 l0_3 x25_2).f0).size : Int)) = true := decide_eq_true c14;have c14b1 : decide (64 < ((rd_T62 l0_3 x25_2).f0).size) = true := decide_eq_true (by omega);clear c14;obtain rfl := Option.some.inj H;have p183 : 0 ≤ (x25_2 : Int) := of_decide_eq_true (by first | (with_reducible assumption) | assumption);have q183 : x25_2 < (l0_3.length : Int) := of_decide_eq_true (by first | (with_reducible assumption) | assumption);obtain ⟨ad183, e183, hx183_0, hx183_1, hx183_2, hx183_3⟩ := at_T62 HR0_3.out x25_2 p183 q183;cases e183;replace hx183_0 := (HB.out.cell (World.block_lt_of_cell? w _ hx183_0)).trans hx183_0;replace hx183_1 := (HB.out.cell (World.block_lt_of_cell? w _ hx183_1)).trans hx183_1;replace hx183_2 := (HB.out.cell (World.block_lt_of_cell? w _ hx183_2)).trans hx183_2;replace hx183_3 := (HB.out.cell (World.block_lt_of_cell? w _ hx183_3)).trans hx183_3;replace p183 := eq_true p183;replace q183 := eq_true q183
          try go_wp2_with (first | ((with_reducible refine gate_dst (N := 4) rfl ?_); (try (refine gate_guard (by rfl) ?_; dsimp only)); refine be 4 #[.string (⟨#[]⟩ : ByteArray), .int .u64 0, .int .u64 0, .int .u64 0] 62 ?_; intro gb184 hg w15 hbox hb; have BK184 := am (hbox); have GW184 := am ((pg hg HB : w.heap.size ≤ gb184)); have GE184 := am ((pg hg HB : w.heap.size ≤ gb184)); replace HB := am (below_step (pb HB) hb); obtain ⟨NB182_184, NB184_182, hnc16, hnb16⟩ := pm hg BK182; replace BK182 := am (blk_below (pk BK182.out) hb); clear hb hbox hg; obtain ⟨hcz17_0, hcz17_1, hcz17_2, hcz17_3, hfz17_0, hfz17_1, hfz17_2, hfz17_3⟩ := g4 BK184))
          have n0_ : Aside0 (((((w15.setCell ⟨gb184, 0, none⟩ (.string ((rd_T62 l0_3 x25_2).f0))).setCell ⟨gb184, 1, none⟩ (.int .u64 ((rd_T62 l0_3 x25_2).f1))).setCell ⟨gb184, 2, none⟩ (.int .u64 ((rd_T62 l0_3 x25_2).f2.f0))).setCell ⟨gb184, 3, none⟩ (.int .u64 ((rd_T62 l0_3 x25_2).f2.f1))).heap[gb182]? = some (.cells #[.int .u64 a0_0, .int .u64 a0_1, .int .i64 a0_2, .slice (some ad183) l0_3.length c0_3] 27 (0, 0))) := ⟨by refine pk ?_; refine blk_far ?_ NB182_184.out _; refine pk ?_; refine blk_far ?_ NB182_184.out _; refine pk ?_; refine blk_far ?_ NB182_184.out _; refine pk ?_; refine blk_far ?_ NB182_184.out _; refine pk ?_; exact BK182.out⟩;have n1_ : Aside0 (((((w15.setCell ⟨gb184, 0, none⟩ (.string ((rd_T62 l0_3 x25_2).f0))).setCell ⟨gb184, 1, none⟩ (.int .u64 ((rd_T62 l0_3 x25_2).f1))).setCell ⟨gb184, 2, none⟩ (.int .u64 ((rd_T62 l0_3 x25_2).f2.f0))).setCell ⟨gb184, 3, none⟩ (.int .u64 ((rd_T62 l0_3 x25_2).f2.f1))).heap[gb184]? = some (.cells #[.string ((rd_T62 l0_3 x25_2).f0), .int .u64 ((rd_T62 l0_3 x25_2).f1), .int .u64 ((rd_T62 l0_3 x25_2).f2.f0), .int .u64 ((rd_T62 l0_3 x25_2).f2.f1)] 62 (0, 0))) := ⟨by refine pk ?_; refine blk_put (cs := #[.string ((rd_T62 l0_3 x25_2).f0), .int .u64 ((rd_T62 l0_3 x25_2).f1), .int .u64 ((rd_T62 l0_3 x25_2).f2.f0), .int .u64 0]) ?_ 3 _ rfl; refine pk ?_; refine blk_put (cs := #[.string ((rd_T62 l0_3 x25_2).f0), .int .u64 ((rd_T62 l0_3 x25_2).f1), .int .u64 0, .int .u64 0]) ?_ 2 _ rfl; refine pk ?_; refine blk_put (cs := #[.string ((rd_T62 l0_3 x25_2).f0), .int .u64 0, .int .u64 0, .int .u64 0]) ?_ 1 _ rfl; refine pk ?_; refine blk_put (cs := #[.string (⟨#[]⟩ : ByteArray), .int .u64 0, .int .u64 0, .int .u64 0]) ?_ 0 _ rfl; refine pk ?_; exact BK184.out⟩;have n2_ : Aside0 (Below w.heap.size w ((((w15.setCell ⟨gb184, 0, none⟩ (.string ((rd_T62 l0_3 x25_2).f0))).setCell ⟨gb184, 1, none⟩ (.int .u64 ((rd_T62 l0_3 x25_2).f1))).setCell ⟨gb184, 2, none⟩ (.int .u64 ((rd_T62 l0_3 x25_2).f2.f0))).setCell ⟨gb184, 3, none⟩ (.int .u64 ((rd_T62 l0_3 x25_2).f2.f1)))) := ⟨pb HB⟩
          (try clear BK182)
          (try clear BK184)
          (try clear HB)
          generalize ((((w15.setCell ⟨gb184, 0, none⟩ (.string ((rd_T62 l0_3 x25_2).f0))).setCell ⟨gb184, 1, none⟩ (.int .u64 ((rd_T62 l0_3 x25_2).f1))).setCell ⟨gb184, 2, none⟩ (.int .u64 ((rd_T62 l0_3 x25_2).f2.f0))).setCell ⟨gb184, 3, none⟩ (.int .u64 ((rd_T62 l0_3 x25_2).f2.f1))) = w18 at n0_ n1_ n2_ ⊢
          have BK182 := n0_;have BK184 := n1_;have HB := n2_;clear n0_ n1_ n2_;replace BK182 := am (blk_drew BK182.out);replace BK184 := am (blk_drew BK184.out);replace HB := am (below_drew1 HB.out)
          refine start_ (n := 35) (S := fun w' => w'.cell? ⟨gb184, 0, none⟩ = some (.string ((rd_T62 l0_3 x25_2).f0)) ∧ w'.cell? ⟨gb184, 1, none⟩ = some (.int .u64 ((rd_T62 l0_3 x25_2).f1)) ∧ w'.cell? ⟨gb184, 2, none⟩ = some (.int .u64 ((rd_T62 l0_3 x25_2).f2.f0)) ∧ w'.cell? ⟨gb184, 3, none⟩ = some (.int .u64 ((rd_T62 l0_3 x25_2).f2.f1))) (ds := []) #[false, false, false, false, false, false, false, false, false, false, false, false, false, false, false, false, false, false, false, false, false, false, false, false, false, false, false, false, false, false, false, false, false, false, false] (by kernel_rfl) rfl rfl ⟨ce BK184 0, ce BK184 1, ce BK184 2, ce BK184 3⟩ (fun hHeld => ?_); refine with_tabW bottom_Right.tab6 bottom_Right.bits6 (fun HT_ HW_ => ?_)
          generalize w18.drew = w19 at BK182 BK184 HB hHeld ⊢
          refine pu 0 ?_
          refine ta 1 hHeld ?_
          refine pu 2 ?_
          refine pu 3 ?_
          refine pu 4 ?_
          refine po 5 ?_
          refine po 6 ?_
          refine po 7 ?_
          refine po 8 ?_
          refine po 9 ?_
          refine po 10 ?_
          refine po 11 ?_
          refine po 12 ?_
          refine pu 13 ?_
          refine pu 14 ?_
          refine po 15 ?_
          refine po 16 ?_
          refine po 17 ?_
          refine po 18 ?_
          refine pu 19 ?_
          refine pu 20 ?_
          refine po 21 ?_
          refine po 22 ?_
          refine po 23 ?_
          refine po 24 ?_
          refine po 25 ?_
          refine po 26 ?_
          refine po 27 ?_
          refine po 28 ?_
          refine po 29 ?_
          refine po 30 ?_
          refine po 31 ?_
          refine po 32 ?_
          refine po 33 ?_
          refine pu 34 ?_
          refine done_ (done_of HT_.out (by kernel_rfl)) ?_
          try go_wp2
          go_ret
          exact ⟨by first | rfl | (simp [errW_none, errW_some] <;> rfl) | (simp [*, errW_none, errW_some] <;> rfl), pb HB⟩
         ·rw [if_neg c14] at H;have c14b0 : decide (64 < (((rd_T62 l0_3 x25_2).f0).size : Int)) = false := decide_eq_false c14;have c14b1 : decide (64 < ((rd_T62 l0_3 x25_2).f0).size) = false := decide_eq_false (by omega);clear c14;replace H := Option.bind_eq_some_iff.mp H;obtain ⟨t185, A200, H⟩ := H
          try dsimp only at H
          have A20 := am A200;clear A200
          by_cases c21 : ((rd_T62 l0_3 x25_2).f1) = t185
          ·rw [if_pos c21] at H;have c21b0 : (((rd_T62 l0_3 x25_2).f1) == t185) = true := beq_iff_eq.mpr c21;have c21b1 : (((rd_T62 l0_3 x25_2).f1) != t185) = false := bne_eq_false_iff_eq.mpr c21;clear c21
           by_cases c22 : (((rd_T62 l0_3 x25_2).f2.f0) == 0 && (((rd_T62 l0_3 x25_2).f2.f1) == 0)) = true
           ·rw [if_pos c22] at H;have c22b0 : (((rd_T62 l0_3 x25_2).f2.f0) == 0 && (((rd_T62 l0_3 x25_2).f2.f1) == 0)) = true := c22
            (try (have c22b1 : decide (((rd_T62 l0_3 x25_2).f2.f0) = 0 && (((rd_T62 l0_3 x25_2).f2.f1) == 0)) = true := by simpa using c22))
            (try (have c22b2 : (((rd_T62 l0_3 x25_2).f2.f0) == 0 && (((rd_T62 l0_3 x25_2).f2.f1) == 0)) = true := by simpa using c22))
            clear c22;obtain rfl := Option.some.inj H;have p183 : 0 ≤ (x25_2 : Int) := of_decide_eq_true (by first | (with_reducible assumption) | assumption);have q183 : x25_2 < (l0_3.length : Int) := of_decide_eq_true (by first | (with_reducible assumption) | assumption);obtain ⟨ad183, e183, hx183_0, hx183_1, hx183_2, hx183_3⟩ := at_T62 HR0_3.out x25_2 p183 q183;cases e183;replace hx183_0 := (HB.out.cell (World.block_lt_of_cell? w _ hx183_0)).trans hx183_0;replace hx183_1 := (HB.out.cell (World.block_lt_of_cell? w _ hx183_1)).trans hx183_1;replace hx183_2 := (HB.out.cell (World.block_lt_of_cell? w _ hx183_2)).trans hx183_2;replace hx183_3 := (HB.out.cell (World.block_lt_of_cell? w _ hx183_3)).trans hx183_3;replace p183 := eq_true p183;replace q183 := eq_true q183
            try go_wp2_with (first | ((with_reducible refine gate_dst (N := 4) rfl ?_); (try (refine gate_guard (by rfl) ?_; dsimp only)); refine be 4 #[.string (⟨#[]⟩ : ByteArray), .int .u64 0, .int .u64 0, .int .u64 0] 62 ?_; intro gb184 hg w23 hbox hb; have BK184 := am (hbox); have GW184 := am ((pg hg HB : w.heap.size ≤ gb184)); have GE184 := am ((pg hg HB : w.heap.size ≤ gb184)); replace HB := am (below_step (pb HB) hb); obtain ⟨NB182_184, NB184_182, hnc24, hnb24⟩ := pm hg BK182; replace BK182 := am (blk_below (pk BK182.out) hb); clear hb hbox hg; obtain ⟨hcz25_0, hcz25_1, hcz25_2, hcz25_3, hfz25_0, hfz25_1, hfz25_2, hfz25_3⟩ := g4 BK184))
            have n0_ : Aside0 (((((w23.setCell ⟨gb184, 0, none⟩ (.string ((rd_T62 l0_3 x25_2).f0))).setCell ⟨gb184, 1, none⟩ (.int .u64 ((rd_T62 l0_3 x25_2).f1))).setCell ⟨gb184, 2, none⟩ (.int .u64 ((rd_T62 l0_3 x25_2).f2.f0))).setCell ⟨gb184, 3, none⟩ (.int .u64 ((rd_T62 l0_3 x25_2).f2.f1))).heap[gb182]? = some (.cells #[.int .u64 a0_0, .int .u64 a0_1, .int .i64 a0_2, .slice (some ad183) l0_3.length c0_3] 27 (0, 0))) := ⟨by refine pk ?_; refine blk_far ?_ NB182_184.out _; refine pk ?_; refine blk_far ?_ NB182_184.out _; refine pk ?_; refine blk_far ?_ NB182_184.out _; refine pk ?_; refine blk_far ?_ NB182_184.out _; refine pk ?_; exact BK182.out⟩;have n1_ : Aside0 (((((w23.setCell ⟨gb184, 0, none⟩ (.string ((rd_T62 l0_3 x25_2).f0))).setCell ⟨gb184, 1, none⟩ (.int .u64 ((rd_T62 l0_3 x25_2).f1))).setCell ⟨gb184, 2, none⟩ (.int .u64 ((rd_T62 l0_3 x25_2).f2.f0))).setCell ⟨gb184, 3, none⟩ (.int .u64 ((rd_T62 l0_3 x25_2).f2.f1))).heap[gb184]? = some (.cells #[.string ((rd_T62 l0_3 x25_2).f0), .int .u64 ((rd_T62 l0_3 x25_2).f1), .int .u64 ((rd_T62 l0_3 x25_2).f2.f0), .int .u64 ((rd_T62 l0_3 x25_2).f2.f1)] 62 (0, 0))) := ⟨by refine pk ?_; refine blk_put (cs := #[.string ((rd_T62 l0_3 x25_2).f0), .int .u64 ((rd_T62 l0_3 x25_2).f1), .int .u64 ((rd_T62 l0_3 x25_2).f2.f0), .int .u64 0]) ?_ 3 _ rfl; refine pk ?_; refine blk_put (cs := #[.string ((rd_T62 l0_3 x25_2).f0), .int .u64 ((rd_T62 l0_3 x25_2).f1), .int .u64 0, .int .u64 0]) ?_ 2 _ rfl; refine pk ?_; refine blk_put (cs := #[.string ((rd_T62 l0_3 x25_2).f0), .int .u64 0, .int .u64 0, .int .u64 0]) ?_ 1 _ rfl; refine pk ?_; refine blk_put (cs := #[.string (⟨#[]⟩ : ByteArray), .int .u64 0, .int .u64 0, .int .u64 0]) ?_ 0 _ rfl; refine pk ?_; exact BK184.out⟩;have n2_ : Aside0 (Below w.heap.size w ((((w23.setCell ⟨gb184, 0, none⟩ (.string ((rd_T62 l0_3 x25_2).f0))).setCell ⟨gb184, 1, none⟩ (.int .u64 ((rd_T62 l0_3 x25_2).f1))).setCell ⟨gb184, 2, none⟩ (.int .u64 ((rd_T62 l0_3 x25_2).f2.f0))).setCell ⟨gb184, 3, none⟩ (.int .u64 ((rd_T62 l0_3 x25_2).f2.f1)))) := ⟨pb HB⟩
            (try clear BK182)
            (try clear BK184)
            (try clear HB)
            generalize ((((w23.setCell ⟨gb184, 0, none⟩ (.string ((rd_T62 l0_3 x25_2).f0))).setCell ⟨gb184, 1, none⟩ (.int .u64 ((rd_T62 l0_3 x25_2).f1))).setCell ⟨gb184, 2, none⟩ (.int .u64 ((rd_T62 l0_3 x25_2).f2.f0))).setCell ⟨gb184, 3, none⟩ (.int .u64 ((rd_T62 l0_3 x25_2).f2.f1))) = w26 at n0_ n1_ n2_ ⊢
            have BK182 := n0_;have BK184 := n1_;have HB := n2_;clear n0_ n1_ n2_;replace BK182 := am (blk_drew BK182.out);replace BK184 := am (blk_drew BK184.out);replace HB := am (below_drew1 HB.out)
            refine start_ (n := 35) (S := fun w' => w'.cell? ⟨gb184, 0, none⟩ = some (.string ((rd_T62 l0_3 x25_2).f0)) ∧ w'.cell? ⟨gb184, 1, none⟩ = some (.int .u64 ((rd_T62 l0_3 x25_2).f1)) ∧ w'.cell? ⟨gb184, 2, none⟩ = some (.int .u64 ((rd_T62 l0_3 x25_2).f2.f0)) ∧ w'.cell? ⟨gb184, 3, none⟩ = some (.int .u64 ((rd_T62 l0_3 x25_2).f2.f1)) ∧ w'.cell? ⟨gb182, 0, none⟩ = some (.int .u64 a0_0) ∧ w'.cell? ⟨gb182, 1, none⟩ = some (.int .u64 a0_1) ∧ w'.cell? ⟨gb182, 2, none⟩ = some (.int .i64 a0_2) ∧ w'.cell? ⟨gb182, 3, none⟩ = some (.slice (some ad183) l0_3.length c0_3)) (ds := []) #[false, false, false, false, false, false, false, false, false, false, false, false, false, false, false, false, false, false, false, false, false, false, false, false, false, false, false, false, false, false, false, false, false, false, false] (by kernel_rfl) rfl rfl ⟨ce BK184 0, ce BK184 1, ce BK184 2, ce BK184 3, ce BK182 0, ce BK182 1, ce BK182 2, ce BK182 3⟩ (fun hHeld => ?_); refine with_tabW bottom_Right.tab6 bottom_Right.bits6 (fun HT_ HW_ => ?_)
            generalize w26.drew = w27 at BK182 BK184 HB hHeld ⊢
            refine pu 0 ?_
            refine ta 1 hHeld ?_
            refine pu 2 ?_
            refine pu 3 ?_
            refine pu 4 ?_
            refine pu 5 ?_
            refine pu 7 ?_
            refine pu 9 ?_
            refine ta 6 hHeld ?_
            refine ta 8 hHeld ?_
            refine ta 10 hHeld ?_
            refine on1 11 (fun K hK => ?_)
            refine gs Try.func30 #[.agg #[.int .u64 a0_0, .int .u64 a0_1], .string ((rd_T62 l0_3 x25_2).f0)] ?_
            with_reducible refine (sip_Sum.calls k2 a0_0 a0_1 ((rd_T62 l0_3 x25_2).f0) t185 _ A20.out).mono ?_
            rintro e w28 ⟨rfl, hb⟩
            refine ⟨_, rfl, ?_⟩
            replace BK182 := am (blk_below (pk BK182.out) hb);replace BK184 := am (blk_below (pk BK184.out) hb);replace HB := am (below_step (pb HB) hb)
            (try clear hb)
            (try clear hb2)
            (try clear hk)
            (try clear hi)
            refine hK.out _ _ ⟨ce BK184 0, ce BK184 1, ce BK184 2, ce BK184 3, ce BK182 0, ce BK182 1, ce BK182 2, ce BK182 3⟩ (fun hHeld => ?_)
            clear hK K
            refine nm ?_
            refine pu 12 ?_
            refine pu 13 ?_
            refine pu 14 ?_
            refine pu 15 ?_
            refine pu 17 ?_
            refine ta 16 hHeld ?_
            refine pu 18 ?_
            refine pu 19 ?_
            refine pu 20 ?_
            refine po 21 ?_
            refine po 22 ?_
            refine po 23 ?_
            refine po 24 ?_
            refine po 25 ?_
            refine po 26 ?_
            refine po 27 ?_
            refine po 28 ?_
            refine po 29 ?_
            refine po 30 ?_
            refine po 31 ?_
            refine po 32 ?_
            refine po 33 ?_
            refine pu 34 ?_
            refine done_ (done_of HT_.out (by kernel_rfl)) ?_
            try go_wp2
            go_ret
            exact ⟨by first | rfl | (simp [errW_none, errW_some] <;> rfl) | (simp [*, errW_none, errW_some] <;> rfl), pb HB⟩
           ·rw [if_neg c22] at H
            have c22b0 : (((rd_T62 l0_3 x25_2).f2.f0) == 0 && (((rd_T62 l0_3 x25_2).f2.f1) == 0)) = false := by simpa using c22
            (try (have c22b1 : decide (((rd_T62 l0_3 x25_2).f2.f0) = 0 && (((rd_T62 l0_3 x25_2).f2.f1) == 0)) = false := by simpa using c22))
            (try (have c22b2 : (((rd_T62 l0_3 x25_2).f2.f0) == 0 && (((rd_T62 l0_3 x25_2).f2.f1) == 0)) = false := by simpa using c22))
            (try (have c22b3 : ¬ (((rd_T62 l0_3 x25_2).f2.f0) = 0 && (((rd_T62 l0_3 x25_2).f2.f1) == 0)) := by simpa using c22))
            clear c22
            by_cases c29 : x25_2 > 0
            ·rw [if_pos c29] at H;have c29b0 : decide (0 < x25_2) = true := decide_eq_true c29;clear c29;obtain ⟨ji30, hji30⟩ : ∃ j_ : Int, (wrap64 (x25_2 - 1)) = j_ := ⟨_, rfl⟩
             replace H : (if 0 ≤ (ji30) then (if (ji30) < (l0_3.length : Int) then ((bottom_compare.f k2 ((rd_T62 l0_3 (ji30)).f0) ((rd_T62 l0_3 (ji30)).f1) ((rd_T62 l0_3 (ji30)).f2.f0) ((rd_T62 l0_3 (ji30)).f2.f1) ((rd_T62 l0_3 x25_2).f0) ((rd_T62 l0_3 x25_2).f1) ((rd_T62 l0_3 x25_2).f2.f0) ((rd_T62 l0_3 x25_2).f2.f1)).bind fun t187 => (if t187 ≥ 0 then (some false) else (bottom_Right.l0 k2 l0_3 (l0_3.length : Int) (wrap64 (x25_2 + 1)) a0_0 a0_1 a0_2 l0_3))) else (none)) else (none)) = some r := by first | (rw [hji30] at H; exact H) | (simp only [hji30] at H ⊢; exact H)
             (try rw [hji30] at A20)
             have hji30w : (IntKind.i64.wrap (x25_2 - 1)) = ji30 := (i64_w _).trans hji30
             by_cases c31 : 0 ≤ (ji30)
             ·rw [if_pos c31] at H;have c31b0 : decide (0 ≤ (ji30)) = true := decide_eq_true c31;clear c31
              by_cases c32 : (ji30) < (l0_3.length : Int)
              ·rw [if_pos c32] at H;have c32b0 : decide ((ji30) < (l0_3.length : Int)) = true := decide_eq_true c32;clear c32;replace H := Option.bind_eq_some_iff.mp H;obtain ⟨t187, A330, H⟩ := H
               try dsimp only at H
               have A33 := am A330;clear A330
               by_cases c34 : t187 ≥ 0
               ·rw [if_pos c34] at H;have c34b0 : decide (0 ≤ t187) = true := decide_eq_true c34;clear c34;obtain rfl := Option.some.inj H;have p183 : 0 ≤ (x25_2 : Int) := of_decide_eq_true (by first | (with_reducible assumption) | assumption);have q183 : x25_2 < (l0_3.length : Int) := of_decide_eq_true (by first | (with_reducible assumption) | assumption);obtain ⟨ad183, e183, hx183_0, hx183_1, hx183_2, hx183_3⟩ := at_T62 HR0_3.out x25_2 p183 q183;cases e183;replace hx183_0 := (HB.out.cell (World.block_lt_of_cell? w _ hx183_0)).trans hx183_0;replace hx183_1 := (HB.out.cell (World.block_lt_of_cell? w _ hx183_1)).trans hx183_1;replace hx183_2 := (HB.out.cell (World.block_lt_of_cell? w _ hx183_2)).trans hx183_2;replace hx183_3 := (HB.out.cell (World.block_lt_of_cell? w _ hx183_3)).trans hx183_3;replace p183 := eq_true p183;replace q183 := eq_true q183
                try go_wp2_with (first | ((with_reducible refine gate_dst (N := 4) rfl ?_); (try (refine gate_guard (by rfl) ?_; dsimp only)); refine be 4 #[.string (⟨#[]⟩ : ByteArray), .int .u64 0, .int .u64 0, .int .u64 0] 62 ?_; intro gb184 hg w35 hbox hb; have BK184 := am (hbox); have GW184 := am ((pg hg HB : w.heap.size ≤ gb184)); have GE184 := am ((pg hg HB : w.heap.size ≤ gb184)); replace HB := am (below_step (pb HB) hb); obtain ⟨NB182_184, NB184_182, hnc36, hnb36⟩ := pm hg BK182; replace BK182 := am (blk_below (pk BK182.out) hb); clear hb hbox hg; obtain ⟨hcz37_0, hcz37_1, hcz37_2, hcz37_3, hfz37_0, hfz37_1, hfz37_2, hfz37_3⟩ := g4 BK184))
                have n0_ : Aside0 (((((w35.setCell ⟨gb184, 0, none⟩ (.string ((rd_T62 l0_3 x25_2).f0))).setCell ⟨gb184, 1, none⟩ (.int .u64 ((rd_T62 l0_3 x25_2).f1))).setCell ⟨gb184, 2, none⟩ (.int .u64 ((rd_T62 l0_3 x25_2).f2.f0))).setCell ⟨gb184, 3, none⟩ (.int .u64 ((rd_T62 l0_3 x25_2).f2.f1))).heap[gb182]? = some (.cells #[.int .u64 a0_0, .int .u64 a0_1, .int .i64 a0_2, .slice (some ad183) l0_3.length c0_3] 27 (0, 0))) := ⟨by refine pk ?_; refine blk_far ?_ NB182_184.out _; refine pk ?_; refine blk_far ?_ NB182_184.out _; refine pk ?_; refine blk_far ?_ NB182_184.out _; refine pk ?_; refine blk_far ?_ NB182_184.out _; refine pk ?_; exact BK182.out⟩;have n1_ : Aside0 (((((w35.setCell ⟨gb184, 0, none⟩ (.string ((rd_T62 l0_3 x25_2).f0))).setCell ⟨gb184, 1, none⟩ (.int .u64 ((rd_T62 l0_3 x25_2).f1))).setCell ⟨gb184, 2, none⟩ (.int .u64 ((rd_T62 l0_3 x25_2).f2.f0))).setCell ⟨gb184, 3, none⟩ (.int .u64 ((rd_T62 l0_3 x25_2).f2.f1))).heap[gb184]? = some (.cells #[.string ((rd_T62 l0_3 x25_2).f0), .int .u64 ((rd_T62 l0_3 x25_2).f1), .int .u64 ((rd_T62 l0_3 x25_2).f2.f0), .int .u64 ((rd_T62 l0_3 x25_2).f2.f1)] 62 (0, 0))) := ⟨by refine pk ?_; refine blk_put (cs := #[.string ((rd_T62 l0_3 x25_2).f0), .int .u64 ((rd_T62 l0_3 x25_2).f1), .int .u64 ((rd_T62 l0_3 x25_2).f2.f0), .int .u64 0]) ?_ 3 _ rfl; refine pk ?_; refine blk_put (cs := #[.string ((rd_T62 l0_3 x25_2).f0), .int .u64 ((rd_T62 l0_3 x25_2).f1), .int .u64 0, .int .u64 0]) ?_ 2 _ rfl; refine pk ?_; refine blk_put (cs := #[.string ((rd_T62 l0_3 x25_2).f0), .int .u64 0, .int .u64 0, .int .u64 0]) ?_ 1 _ rfl; refine pk ?_; refine blk_put (cs := #[.string (⟨#[]⟩ : ByteArray), .int .u64 0, .int .u64 0, .int .u64 0]) ?_ 0 _ rfl; refine pk ?_; exact BK184.out⟩;have n2_ : Aside0 (Below w.heap.size w ((((w35.setCell ⟨gb184, 0, none⟩ (.string ((rd_T62 l0_3 x25_2).f0))).setCell ⟨gb184, 1, none⟩ (.int .u64 ((rd_T62 l0_3 x25_2).f1))).setCell ⟨gb184, 2, none⟩ (.int .u64 ((rd_T62 l0_3 x25_2).f2.f0))).setCell ⟨gb184, 3, none⟩ (.int .u64 ((rd_T62 l0_3 x25_2).f2.f1)))) := ⟨pb HB⟩
                (try clear BK182)
                (try clear BK184)
                (try clear HB)
                generalize ((((w35.setCell ⟨gb184, 0, none⟩ (.string ((rd_T62 l0_3 x25_2).f0))).setCell ⟨gb184, 1, none⟩ (.int .u64 ((rd_T62 l0_3 x25_2).f1))).setCell ⟨gb184, 2, none⟩ (.int .u64 ((rd_T62 l0_3 x25_2).f2.f0))).setCell ⟨gb184, 3, none⟩ (.int .u64 ((rd_T62 l0_3 x25_2).f2.f1))) = w38 at n0_ n1_ n2_ ⊢
                have BK182 := n0_;have BK184 := n1_;have HB := n2_;clear n0_ n1_ n2_;replace BK182 := am (blk_drew BK182.out);replace BK184 := am (blk_drew BK184.out);replace HB := am (below_drew1 HB.out);have p186 : 0 ≤ ((ji30) : Int) := of_decide_eq_true (by first | (with_reducible assumption) | assumption);have q186 : (ji30) < (l0_3.length : Int) := of_decide_eq_true (by first | (with_reducible assumption) | assumption);obtain ⟨ad186, e186, hx186_0, hx186_1, hx186_2, hx186_3⟩ := at_T62 HR0_3.out (ji30) p186 q186;have hw186_3 := hx186_3;have hw186_2 := hx186_2;have hw186_1 := hx186_1;have hw186_0 := hx186_0;obtain rfl : ad183 = ad186 := (by injection e186);replace hx186_0 := (HB.out.cell (World.block_lt_of_cell? w _ hx186_0)).trans hx186_0;replace hx186_1 := (HB.out.cell (World.block_lt_of_cell? w _ hx186_1)).trans hx186_1;replace hx186_2 := (HB.out.cell (World.block_lt_of_cell? w _ hx186_2)).trans hx186_2;replace hx186_3 := (HB.out.cell (World.block_lt_of_cell? w _ hx186_3)).trans hx186_3;replace p186 := eq_true p186;replace q186 := eq_true q186
                refine start_ (n := 35) (S := fun w' => w'.cell? ⟨gb184, 0, none⟩ = some (.string ((rd_T62 l0_3 x25_2).f0)) ∧ w'.cell? ⟨gb184, 1, none⟩ = some (.int .u64 ((rd_T62 l0_3 x25_2).f1)) ∧ w'.cell? ⟨gb184, 2, none⟩ = some (.int .u64 ((rd_T62 l0_3 x25_2).f2.f0)) ∧ w'.cell? ⟨gb184, 3, none⟩ = some (.int .u64 ((rd_T62 l0_3 x25_2).f2.f1)) ∧ w'.cell? ⟨gb182, 0, none⟩ = some (.int .u64 a0_0) ∧ w'.cell? ⟨gb182, 1, none⟩ = some (.int .u64 a0_1) ∧ w'.cell? ⟨gb182, 2, none⟩ = some (.int .i64 a0_2) ∧ w'.cell? ⟨gb182, 3, none⟩ = some (.slice (some ad183) l0_3.length c0_3) ∧ w'.cell? (ad183.add (((ji30)).toNat * 4)) = some (.string ((rd_T62 l0_3 (ji30)).f0)) ∧ w'.cell? ⟨(ad183.add (((ji30)).toNat * 4)).block, (ad183.add (((ji30)).toNat * 4)).off + 1, none⟩ = some (.int .u64 ((rd_T62 l0_3 (ji30)).f1)) ∧ w'.cell? ⟨(ad183.add (((ji30)).toNat * 4)).block, (ad183.add (((ji30)).toNat * 4)).off + 2, none⟩ = some (.int .u64 ((rd_T62 l0_3 (ji30)).f2.f0)) ∧ w'.cell? ⟨(ad183.add (((ji30)).toNat * 4)).block, (ad183.add (((ji30)).toNat * 4)).off + 3, none⟩ = some (.int .u64 ((rd_T62 l0_3 (ji30)).f2.f1))) (ds := []) #[false, false, false, false, false, false, false, false, false, false, false, false, false, false, false, false, false, false, false, false, false, false, false, false, false, false, false, false, false, false, false, false, false, false, false] (by kernel_rfl) rfl rfl ⟨ce BK184 0, ce BK184 1, ce BK184 2, ce BK184 3, ce BK182 0, ce BK182 1, ce BK182 2, ce BK182 3, ((HB.out.cell (World.block_lt_of_cell? w _ hw186_0)).trans hw186_0), ((HB.out.cell (World.block_lt_of_cell? w _ hw186_1)).trans hw186_1), ((HB.out.cell (World.block_lt_of_cell? w _ hw186_2)).trans hw186_2), ((HB.out.cell (World.block_lt_of_cell? w _ hw186_3)).trans hw186_3)⟩ (fun hHeld => ?_); refine with_tabW bottom_Right.tab6 bottom_Right.bits6 (fun HT_ HW_ => ?_)
                generalize w38.drew = w39 at BK182 BK184 HB hx186_0 hx186_1 hx186_2 hx186_3 hHeld ⊢
                refine pu 0 ?_
                refine ta 1 hHeld ?_
                refine pu 2 ?_
                refine pu 3 ?_
                refine pu 4 ?_
                refine pu 5 ?_
                refine pu 7 ?_
                refine pu 9 ?_
                refine ta 6 hHeld ?_
                refine ta 8 hHeld ?_
                refine ta 10 hHeld ?_
                refine on1 11 (fun K hK => ?_)
                refine gs Try.func30 #[.agg #[.int .u64 a0_0, .int .u64 a0_1], .string ((rd_T62 l0_3 x25_2).f0)] ?_
                with_reducible refine (sip_Sum.calls k2 a0_0 a0_1 ((rd_T62 l0_3 x25_2).f0) t185 _ A20.out).mono ?_
                rintro e w40 ⟨rfl, hb⟩
                refine ⟨_, rfl, ?_⟩
                replace BK182 := am (blk_below (pk BK182.out) hb);replace BK184 := am (blk_below (pk BK184.out) hb);replace HB := am (below_step (pb HB) hb)
                (try clear hb)
                (try clear hb2)
                (try clear hk)
                (try clear hi)
                refine hK.out _ _ ⟨ce BK184 0, ce BK184 1, ce BK184 2, ce BK184 3, ce BK182 0, ce BK182 1, ce BK182 2, ce BK182 3, ((HB.out.cell (World.block_lt_of_cell? w _ hw186_0)).trans hw186_0), ((HB.out.cell (World.block_lt_of_cell? w _ hw186_1)).trans hw186_1), ((HB.out.cell (World.block_lt_of_cell? w _ hw186_2)).trans hw186_2), ((HB.out.cell (World.block_lt_of_cell? w _ hw186_3)).trans hw186_3)⟩ (fun hHeld => ?_)
                clear hK K
                refine nm ?_
                refine pu 12 ?_
                refine pu 13 ?_
                refine pu 14 ?_
                refine pu 15 ?_
                refine pu 17 ?_
                refine ta 16 hHeld ?_
                refine pu 18 ?_
                refine pu 19 ?_
                refine pu 20 ?_
                refine pu 21 ?_
                refine pu 22 ?_
                refine pu 23 ?_
                refine pu 24 ?_
                refine pu 26 ?_
                refine pu 27 ?_
                refine ta 25 hHeld ?_
                refine pu 28 ?_
                refine ta 29 hHeld ?_
                refine ta 30 hHeld ?_
                refine on1 31 (fun K hK => ?_)
                refine goes_ Try.func33 (by kernel_rfl) rfl #[.agg #[.string ((rd_T62 l0_3 (ji30)).f0), .int .u64 ((rd_T62 l0_3 (ji30)).f1), .int .u64 ((rd_T62 l0_3 (ji30)).f2.f0), .int .u64 ((rd_T62 l0_3 (ji30)).f2.f1)], .agg #[.string ((rd_T62 l0_3 x25_2).f0), .int .u64 ((rd_T62 l0_3 x25_2).f1), .int .u64 ((rd_T62 l0_3 x25_2).f2.f0), .int .u64 ((rd_T62 l0_3 x25_2).f2.f1)]] (by rfl) rfl rfl (by (try simp only [List.map_toArray, List.map_cons, List.map_nil]); first | done | (simp only [hji30]; rfl) | rfl | (simp only [List.length_drop, List.length_take]; rfl)) ?_
                with_reducible refine (bottom_compare.calls k2 ((rd_T62 l0_3 (ji30)).f0) ((rd_T62 l0_3 (ji30)).f1) ((rd_T62 l0_3 (ji30)).f2.f0) ((rd_T62 l0_3 (ji30)).f2.f1) ((rd_T62 l0_3 x25_2).f0) ((rd_T62 l0_3 x25_2).f1) ((rd_T62 l0_3 x25_2).f2.f0) ((rd_T62 l0_3 x25_2).f2.f1) t187 _ A33.out).mono ?_
                rintro e w41 ⟨rfl, hb⟩
                refine ⟨_, rfl, ?_⟩
                replace BK182 := am (blk_below (pk BK182.out) hb);replace BK184 := am (blk_below (pk BK184.out) hb);replace HB := am (below_step (pb HB) hb)
                (try clear hb)
                (try clear hb2)
                (try clear hk)
                (try clear hi)
                refine hK.out _ _ ⟨ce BK184 0, ce BK184 1, ce BK184 2, ce BK184 3, ce BK182 0, ce BK182 1, ce BK182 2, ce BK182 3, ((HB.out.cell (World.block_lt_of_cell? w _ hw186_0)).trans hw186_0), ((HB.out.cell (World.block_lt_of_cell? w _ hw186_1)).trans hw186_1), ((HB.out.cell (World.block_lt_of_cell? w _ hw186_2)).trans hw186_2), ((HB.out.cell (World.block_lt_of_cell? w _ hw186_3)).trans hw186_3)⟩ (fun hHeld => ?_)
                clear hK K
                refine nm ?_
                refine pu 32 ?_
                refine pu 33 ?_
                refine pu 34 ?_
                refine done_ (done_of HT_.out (by kernel_rfl)) ?_
                try go_wp2
                go_ret
                exact ⟨by first | rfl | (simp [errW_none, errW_some] <;> rfl) | (simp only [← hji30]; first | rfl | (simp [errW_none, errW_some] <;> rfl)) | (simp [*, errW_none, errW_some] <;> rfl), pb HB⟩
               ·rw [if_neg c34] at H;have c34b0 : decide (0 ≤ t187) = false := decide_eq_false c34;clear c34;have H' := am H;clear H;have p183 : 0 ≤ (x25_2 : Int) := of_decide_eq_true (by first | (with_reducible assumption) | assumption);have q183 : x25_2 < (l0_3.length : Int) := of_decide_eq_true (by first | (with_reducible assumption) | assumption);obtain ⟨ad183, e183, hx183_0, hx183_1, hx183_2, hx183_3⟩ := at_T62 HR0_3.out x25_2 p183 q183;cases e183;replace hx183_0 := (HB.out.cell (World.block_lt_of_cell? w _ hx183_0)).trans hx183_0;replace hx183_1 := (HB.out.cell (World.block_lt_of_cell? w _ hx183_1)).trans hx183_1;replace hx183_2 := (HB.out.cell (World.block_lt_of_cell? w _ hx183_2)).trans hx183_2;replace hx183_3 := (HB.out.cell (World.block_lt_of_cell? w _ hx183_3)).trans hx183_3;replace p183 := eq_true p183;replace q183 := eq_true q183
                try go_wp2_with (first | ((with_reducible refine gate_dst (N := 4) rfl ?_); (try (refine gate_guard (by rfl) ?_; dsimp only)); refine be 4 #[.string (⟨#[]⟩ : ByteArray), .int .u64 0, .int .u64 0, .int .u64 0] 62 ?_; intro gb184 hg w42 hbox hb; have BK184 := am (hbox); have GW184 := am ((pg hg HB : w.heap.size ≤ gb184)); have GE184 := am ((pg hg HB : w.heap.size ≤ gb184)); replace HB := am (below_step (pb HB) hb); obtain ⟨NB182_184, NB184_182, hnc43, hnb43⟩ := pm hg BK182; replace BK182 := am (blk_below (pk BK182.out) hb); clear hb hbox hg; obtain ⟨hcz44_0, hcz44_1, hcz44_2, hcz44_3, hfz44_0, hfz44_1, hfz44_2, hfz44_3⟩ := g4 BK184))
                have n0_ : Aside0 (((((w42.setCell ⟨gb184, 0, none⟩ (.string ((rd_T62 l0_3 x25_2).f0))).setCell ⟨gb184, 1, none⟩ (.int .u64 ((rd_T62 l0_3 x25_2).f1))).setCell ⟨gb184, 2, none⟩ (.int .u64 ((rd_T62 l0_3 x25_2).f2.f0))).setCell ⟨gb184, 3, none⟩ (.int .u64 ((rd_T62 l0_3 x25_2).f2.f1))).heap[gb182]? = some (.cells #[.int .u64 a0_0, .int .u64 a0_1, .int .i64 a0_2, .slice (some ad183) l0_3.length c0_3] 27 (0, 0))) := ⟨by refine pk ?_; refine blk_far ?_ NB182_184.out _; refine pk ?_; refine blk_far ?_ NB182_184.out _; refine pk ?_; refine blk_far ?_ NB182_184.out _; refine pk ?_; refine blk_far ?_ NB182_184.out _; refine pk ?_; exact BK182.out⟩;have n1_ : Aside0 (((((w42.setCell ⟨gb184, 0, none⟩ (.string ((rd_T62 l0_3 x25_2).f0))).setCell ⟨gb184, 1, none⟩ (.int .u64 ((rd_T62 l0_3 x25_2).f1))).setCell ⟨gb184, 2, none⟩ (.int .u64 ((rd_T62 l0_3 x25_2).f2.f0))).setCell ⟨gb184, 3, none⟩ (.int .u64 ((rd_T62 l0_3 x25_2).f2.f1))).heap[gb184]? = some (.cells #[.string ((rd_T62 l0_3 x25_2).f0), .int .u64 ((rd_T62 l0_3 x25_2).f1), .int .u64 ((rd_T62 l0_3 x25_2).f2.f0), .int .u64 ((rd_T62 l0_3 x25_2).f2.f1)] 62 (0, 0))) := ⟨by refine pk ?_; refine blk_put (cs := #[.string ((rd_T62 l0_3 x25_2).f0), .int .u64 ((rd_T62 l0_3 x25_2).f1), .int .u64 ((rd_T62 l0_3 x25_2).f2.f0), .int .u64 0]) ?_ 3 _ rfl; refine pk ?_; refine blk_put (cs := #[.string ((rd_T62 l0_3 x25_2).f0), .int .u64 ((rd_T62 l0_3 x25_2).f1), .int .u64 0, .int .u64 0]) ?_ 2 _ rfl; refine pk ?_; refine blk_put (cs := #[.string ((rd_T62 l0_3 x25_2).f0), .int .u64 0, .int .u64 0, .int .u64 0]) ?_ 1 _ rfl; refine pk ?_; refine blk_put (cs := #[.string (⟨#[]⟩ : ByteArray), .int .u64 0, .int .u64 0, .int .u64 0]) ?_ 0 _ rfl; refine pk ?_; exact BK184.out⟩;have n2_ : Aside0 (Below w.heap.size w ((((w42.setCell ⟨gb184, 0, none⟩ (.string ((rd_T62 l0_3 x25_2).f0))).setCell ⟨gb184, 1, none⟩ (.int .u64 ((rd_T62 l0_3 x25_2).f1))).setCell ⟨gb184, 2, none⟩ (.int .u64 ((rd_T62 l0_3 x25_2).f2.f0))).setCell ⟨gb184, 3, none⟩ (.int .u64 ((rd_T62 l0_3 x25_2).f2.f1)))) := ⟨pb HB⟩
                (try clear BK182)
                (try clear BK184)
                (try clear HB)
                generalize ((((w42.setCell ⟨gb184, 0, none⟩ (.string ((rd_T62 l0_3 x25_2).f0))).setCell ⟨gb184, 1, none⟩ (.int .u64 ((rd_T62 l0_3 x25_2).f1))).setCell ⟨gb184, 2, none⟩ (.int .u64 ((rd_T62 l0_3 x25_2).f2.f0))).setCell ⟨gb184, 3, none⟩ (.int .u64 ((rd_T62 l0_3 x25_2).f2.f1))) = w45 at n0_ n1_ n2_ ⊢
                have BK182 := n0_;have BK184 := n1_;have HB := n2_;clear n0_ n1_ n2_;replace BK182 := am (blk_drew BK182.out);replace BK184 := am (blk_drew BK184.out);replace HB := am (below_drew1 HB.out);have p186 : 0 ≤ ((ji30) : Int) := of_decide_eq_true (by first | (with_reducible assumption) | assumption);have q186 : (ji30) < (l0_3.length : Int) := of_decide_eq_true (by first | (with_reducible assumption) | assumption);obtain ⟨ad186, e186, hx186_0, hx186_1, hx186_2, hx186_3⟩ := at_T62 HR0_3.out (ji30) p186 q186;have hw186_3 := hx186_3;have hw186_2 := hx186_2;have hw186_1 := hx186_1;have hw186_0 := hx186_0;obtain rfl : ad183 = ad186 := (by injection e186);replace hx186_0 := (HB.out.cell (World.block_lt_of_cell? w _ hx186_0)).trans hx186_0;replace hx186_1 := (HB.out.cell (World.block_lt_of_cell? w _ hx186_1)).trans hx186_1;replace hx186_2 := (HB.out.cell (World.block_lt_of_cell? w _ hx186_2)).trans hx186_2;replace hx186_3 := (HB.out.cell (World.block_lt_of_cell? w _ hx186_3)).trans hx186_3;replace p186 := eq_true p186;replace q186 := eq_true q186
                refine start_ (n := 35) (S := fun w' => w'.cell? ⟨gb184, 0, none⟩ = some (.string ((rd_T62 l0_3 x25_2).f0)) ∧ w'.cell? ⟨gb184, 1, none⟩ = some (.int .u64 ((rd_T62 l0_3 x25_2).f1)) ∧ w'.cell? ⟨gb184, 2, none⟩ = some (.int .u64 ((rd_T62 l0_3 x25_2).f2.f0)) ∧ w'.cell? ⟨gb184, 3, none⟩ = some (.int .u64 ((rd_T62 l0_3 x25_2).f2.f1)) ∧ w'.cell? ⟨gb182, 0, none⟩ = some (.int .u64 a0_0) ∧ w'.cell? ⟨gb182, 1, none⟩ = some (.int .u64 a0_1) ∧ w'.cell? ⟨gb182, 2, none⟩ = some (.int .i64 a0_2) ∧ w'.cell? ⟨gb182, 3, none⟩ = some (.slice (some ad183) l0_3.length c0_3) ∧ w'.cell? (ad183.add (((ji30)).toNat * 4)) = some (.string ((rd_T62 l0_3 (ji30)).f0)) ∧ w'.cell? ⟨(ad183.add (((ji30)).toNat * 4)).block, (ad183.add (((ji30)).toNat * 4)).off + 1, none⟩ = some (.int .u64 ((rd_T62 l0_3 (ji30)).f1)) ∧ w'.cell? ⟨(ad183.add (((ji30)).toNat * 4)).block, (ad183.add (((ji30)).toNat * 4)).off + 2, none⟩ = some (.int .u64 ((rd_T62 l0_3 (ji30)).f2.f0)) ∧ w'.cell? ⟨(ad183.add (((ji30)).toNat * 4)).block, (ad183.add (((ji30)).toNat * 4)).off + 3, none⟩ = some (.int .u64 ((rd_T62 l0_3 (ji30)).f2.f1))) (ds := []) #[false, false, false, false, false, false, false, false, false, false, false, false, false, false, false, false, false, false, false, false, false, false, false, false, false, false, false, false, false, false, false, false, false, false, false] (by kernel_rfl) rfl rfl ⟨ce BK184 0, ce BK184 1, ce BK184 2, ce BK184 3, ce BK182 0, ce BK182 1, ce BK182 2, ce BK182 3, ((HB.out.cell (World.block_lt_of_cell? w _ hw186_0)).trans hw186_0), ((HB.out.cell (World.block_lt_of_cell? w _ hw186_1)).trans hw186_1), ((HB.out.cell (World.block_lt_of_cell? w _ hw186_2)).trans hw186_2), ((HB.out.cell (World.block_lt_of_cell? w _ hw186_3)).trans hw186_3)⟩ (fun hHeld => ?_); refine with_tabW bottom_Right.tab6 bottom_Right.bits6 (fun HT_ HW_ => ?_)
                generalize w45.drew = w46 at BK182 BK184 HB hx186_0 hx186_1 hx186_2 hx186_3 hHeld ⊢
                refine pu 0 ?_
                refine ta 1 hHeld ?_
                refine pu 2 ?_
                refine pu 3 ?_
                refine pu 4 ?_
                refine pu 5 ?_
                refine pu 7 ?_
                refine pu 9 ?_
                refine ta 6 hHeld ?_
                refine ta 8 hHeld ?_
                refine ta 10 hHeld ?_
                refine on1 11 (fun K hK => ?_)
                refine gs Try.func30 #[.agg #[.int .u64 a0_0, .int .u64 a0_1], .string ((rd_T62 l0_3 x25_2).f0)] ?_
                with_reducible refine (sip_Sum.calls k2 a0_0 a0_1 ((rd_T62 l0_3 x25_2).f0) t185 _ A20.out).mono ?_
                rintro e w47 ⟨rfl, hb⟩
                refine ⟨_, rfl, ?_⟩
                replace BK182 := am (blk_below (pk BK182.out) hb);replace BK184 := am (blk_below (pk BK184.out) hb);replace HB := am (below_step (pb HB) hb)
                (try clear hb)
                (try clear hb2)
                (try clear hk)
                (try clear hi)
                refine hK.out _ _ ⟨ce BK184 0, ce BK184 1, ce BK184 2, ce BK184 3, ce BK182 0, ce BK182 1, ce BK182 2, ce BK182 3, ((HB.out.cell (World.block_lt_of_cell? w _ hw186_0)).trans hw186_0), ((HB.out.cell (World.block_lt_of_cell? w _ hw186_1)).trans hw186_1), ((HB.out.cell (World.block_lt_of_cell? w _ hw186_2)).trans hw186_2), ((HB.out.cell (World.block_lt_of_cell? w _ hw186_3)).trans hw186_3)⟩ (fun hHeld => ?_)
                clear hK K
                refine nm ?_
                refine pu 12 ?_
                refine pu 13 ?_
                refine pu 14 ?_
                refine pu 15 ?_
                refine pu 17 ?_
                refine ta 16 hHeld ?_
                refine pu 18 ?_
                refine pu 19 ?_
                refine pu 20 ?_
                refine pu 21 ?_
                refine pu 22 ?_
                refine pu 23 ?_
                refine pu 24 ?_
                refine pu 26 ?_
                refine pu 27 ?_
                refine ta 25 hHeld ?_
                refine pu 28 ?_
                refine ta 29 hHeld ?_
                refine ta 30 hHeld ?_
                refine on1 31 (fun K hK => ?_)
                refine goes_ Try.func33 (by kernel_rfl) rfl #[.agg #[.string ((rd_T62 l0_3 (ji30)).f0), .int .u64 ((rd_T62 l0_3 (ji30)).f1), .int .u64 ((rd_T62 l0_3 (ji30)).f2.f0), .int .u64 ((rd_T62 l0_3 (ji30)).f2.f1)], .agg #[.string ((rd_T62 l0_3 x25_2).f0), .int .u64 ((rd_T62 l0_3 x25_2).f1), .int .u64 ((rd_T62 l0_3 x25_2).f2.f0), .int .u64 ((rd_T62 l0_3 x25_2).f2.f1)]] (by rfl) rfl rfl (by (try simp only [List.map_toArray, List.map_cons, List.map_nil]); first | done | (simp only [hji30]; rfl) | rfl | (simp only [List.length_drop, List.length_take]; rfl)) ?_
                with_reducible refine (bottom_compare.calls k2 ((rd_T62 l0_3 (ji30)).f0) ((rd_T62 l0_3 (ji30)).f1) ((rd_T62 l0_3 (ji30)).f2.f0) ((rd_T62 l0_3 (ji30)).f2.f1) ((rd_T62 l0_3 x25_2).f0) ((rd_T62 l0_3 x25_2).f1) ((rd_T62 l0_3 x25_2).f2.f0) ((rd_T62 l0_3 x25_2).f2.f1) t187 _ A33.out).mono ?_
                rintro e w48 ⟨rfl, hb⟩
                refine ⟨_, rfl, ?_⟩
                replace BK182 := am (blk_below (pk BK182.out) hb);replace BK184 := am (blk_below (pk BK184.out) hb);replace HB := am (below_step (pb HB) hb)
                (try clear hb)
                (try clear hb2)
                (try clear hk)
                (try clear hi)
                refine hK.out _ _ ⟨ce BK184 0, ce BK184 1, ce BK184 2, ce BK184 3, ce BK182 0, ce BK182 1, ce BK182 2, ce BK182 3, ((HB.out.cell (World.block_lt_of_cell? w _ hw186_0)).trans hw186_0), ((HB.out.cell (World.block_lt_of_cell? w _ hw186_1)).trans hw186_1), ((HB.out.cell (World.block_lt_of_cell? w _ hw186_2)).trans hw186_2), ((HB.out.cell (World.block_lt_of_cell? w _ hw186_3)).trans hw186_3)⟩ (fun hHeld => ?_)
                clear hK K
                refine nm ?_
                refine pu 32 ?_
                refine pu 33 ?_
                refine pu 34 ?_
                refine done_ (done_of HT_.out (by kernel_rfl)) ?_
                try go_wp2
                go_roundg k2
                case measure => have := HJ1.out; have := HK2.out; omega
                case rel => exact ⟨(wrap64 (x25_2 + 1)), (by first | rfl | (simp; done) | (simp [*]; done)), H', ⟨by have := HJ1.out; have := HK2.out; omega⟩, ⟨pk BK182.out⟩, ⟨pb HB⟩⟩
              ·rw [if_neg c32] at H;exact absurd H (by simp)
             ·rw [if_neg c31] at H;exact absurd H (by simp)
            ·rw [if_neg c29] at H;have c29b0 : decide (0 < x25_2) = false := decide_eq_false c29;clear c29;have H' := am H;clear H;have p183 : 0 ≤ (x25_2 : Int) := of_decide_eq_true (by first | (with_reducible assumption) | assumption);have q183 : x25_2 < (l0_3.length : Int) := of_decide_eq_true (by first | (with_reducible assumption) | assumption);obtain ⟨ad183, e183, hx183_0, hx183_1, hx183_2, hx183_3⟩ := at_T62 HR0_3.out x25_2 p183 q183;cases e183;replace hx183_0 := (HB.out.cell (World.block_lt_of_cell? w _ hx183_0)).trans hx183_0;replace hx183_1 := (HB.out.cell (World.block_lt_of_cell? w _ hx183_1)).trans hx183_1;replace hx183_2 := (HB.out.cell (World.block_lt_of_cell? w _ hx183_2)).trans hx183_2;replace hx183_3 := (HB.out.cell (World.block_lt_of_cell? w _ hx183_3)).trans hx183_3;replace p183 := eq_true p183;replace q183 := eq_true q183
             try go_wp2_with (first | ((with_reducible refine gate_dst (N := 4) rfl ?_); (try (refine gate_guard (by rfl) ?_; dsimp only)); refine be 4 #[.string (⟨#[]⟩ : ByteArray), .int .u64 0, .int .u64 0, .int .u64 0] 62 ?_; intro gb184 hg w49 hbox hb; have BK184 := am (hbox); have GW184 := am ((pg hg HB : w.heap.size ≤ gb184)); have GE184 := am ((pg hg HB : w.heap.size ≤ gb184)); replace HB := am (below_step (pb HB) hb); obtain ⟨NB182_184, NB184_182, hnc50, hnb50⟩ := pm hg BK182; replace BK182 := am (blk_below (pk BK182.out) hb); clear hb hbox hg; obtain ⟨hcz51_0, hcz51_1, hcz51_2, hcz51_3, hfz51_0, hfz51_1, hfz51_2, hfz51_3⟩ := g4 BK184))
             have n0_ : Aside0 (((((w49.setCell ⟨gb184, 0, none⟩ (.string ((rd_T62 l0_3 x25_2).f0))).setCell ⟨gb184, 1, none⟩ (.int .u64 ((rd_T62 l0_3 x25_2).f1))).setCell ⟨gb184, 2, none⟩ (.int .u64 ((rd_T62 l0_3 x25_2).f2.f0))).setCell ⟨gb184, 3, none⟩ (.int .u64 ((rd_T62 l0_3 x25_2).f2.f1))).heap[gb182]? = some (.cells #[.int .u64 a0_0, .int .u64 a0_1, .int .i64 a0_2, .slice (some ad183) l0_3.length c0_3] 27 (0, 0))) := ⟨by refine pk ?_; refine blk_far ?_ NB182_184.out _; refine pk ?_; refine blk_far ?_ NB182_184.out _; refine pk ?_; refine blk_far ?_ NB182_184.out _; refine pk ?_; refine blk_far ?_ NB182_184.out _; refine pk ?_; exact BK182.out⟩;have n1_ : Aside0 (((((w49.setCell ⟨gb184, 0, none⟩ (.string ((rd_T62 l0_3 x25_2).f0))).setCell ⟨gb184, 1, none⟩ (.int .u64 ((rd_T62 l0_3 x25_2).f1))).setCell ⟨gb184, 2, none⟩ (.int .u64 ((rd_T62 l0_3 x25_2).f2.f0))).setCell ⟨gb184, 3, none⟩ (.int .u64 ((rd_T62 l0_3 x25_2).f2.f1))).heap[gb184]? = some (.cells #[.string ((rd_T62 l0_3 x25_2).f0), .int .u64 ((rd_T62 l0_3 x25_2).f1), .int .u64 ((rd_T62 l0_3 x25_2).f2.f0), .int .u64 ((rd_T62 l0_3 x25_2).f2.f1)] 62 (0, 0))) := ⟨by refine pk ?_; refine blk_put (cs := #[.string ((rd_T62 l0_3 x25_2).f0), .int .u64 ((rd_T62 l0_3 x25_2).f1), .int .u64 ((rd_T62 l0_3 x25_2).f2.f0), .int .u64 0]) ?_ 3 _ rfl; refine pk ?_; refine blk_put (cs := #[.string ((rd_T62 l0_3 x25_2).f0), .int .u64 ((rd_T62 l0_3 x25_2).f1), .int .u64 0, .int .u64 0]) ?_ 2 _ rfl; refine pk ?_; refine blk_put (cs := #[.string ((rd_T62 l0_3 x25_2).f0), .int .u64 0, .int .u64 0, .int .u64 0]) ?_ 1 _ rfl; refine pk ?_; refine blk_put (cs := #[.string (⟨#[]⟩ : ByteArray), .int .u64 0, .int .u64 0, .int .u64 0]) ?_ 0 _ rfl; refine pk ?_; exact BK184.out⟩;have n2_ : Aside0 (Below w.heap.size w ((((w49.setCell ⟨gb184, 0, none⟩ (.string ((rd_T62 l0_3 x25_2).f0))).setCell ⟨gb184, 1, none⟩ (.int .u64 ((rd_T62 l0_3 x25_2).f1))).setCell ⟨gb184, 2, none⟩ (.int .u64 ((rd_T62 l0_3 x25_2).f2.f0))).setCell ⟨gb184, 3, none⟩ (.int .u64 ((rd_T62 l0_3 x25_2).f2.f1)))) := ⟨pb HB⟩
             (try clear BK182)
             (try clear BK184)
             (try clear HB)
             generalize ((((w49.setCell ⟨gb184, 0, none⟩ (.string ((rd_T62 l0_3 x25_2).f0))).setCell ⟨gb184, 1, none⟩ (.int .u64 ((rd_T62 l0_3 x25_2).f1))).setCell ⟨gb184, 2, none⟩ (.int .u64 ((rd_T62 l0_3 x25_2).f2.f0))).setCell ⟨gb184, 3, none⟩ (.int .u64 ((rd_T62 l0_3 x25_2).f2.f1))) = w52 at n0_ n1_ n2_ ⊢
             have BK182 := n0_;have BK184 := n1_;have HB := n2_;clear n0_ n1_ n2_;replace BK182 := am (blk_drew BK182.out);replace BK184 := am (blk_drew BK184.out);replace HB := am (below_drew1 HB.out)
             refine start_ (n := 35) (S := fun w' => w'.cell? ⟨gb184, 0, none⟩ = some (.string ((rd_T62 l0_3 x25_2).f0)) ∧ w'.cell? ⟨gb184, 1, none⟩ = some (.int .u64 ((rd_T62 l0_3 x25_2).f1)) ∧ w'.cell? ⟨gb184, 2, none⟩ = some (.int .u64 ((rd_T62 l0_3 x25_2).f2.f0)) ∧ w'.cell? ⟨gb184, 3, none⟩ = some (.int .u64 ((rd_T62 l0_3 x25_2).f2.f1)) ∧ w'.cell? ⟨gb182, 0, none⟩ = some (.int .u64 a0_0) ∧ w'.cell? ⟨gb182, 1, none⟩ = some (.int .u64 a0_1) ∧ w'.cell? ⟨gb182, 2, none⟩ = some (.int .i64 a0_2) ∧ w'.cell? ⟨gb182, 3, none⟩ = some (.slice (some ad183) l0_3.length c0_3)) (ds := []) #[false, false, false, false, false, false, false, false, false, false, false, false, false, false, false, false, false, false, false, false, false, false, false, false, false, false, false, false, false, false, false, false, false, false, false] (by kernel_rfl) rfl rfl ⟨ce BK184 0, ce BK184 1, ce BK184 2, ce BK184 3, ce BK182 0, ce BK182 1, ce BK182 2, ce BK182 3⟩ (fun hHeld => ?_); refine with_tabW bottom_Right.tab6 bottom_Right.bits6 (fun HT_ HW_ => ?_)
             generalize w52.drew = w53 at BK182 BK184 HB hHeld ⊢
             refine pu 0 ?_
             refine ta 1 hHeld ?_
             refine pu 2 ?_
             refine pu 3 ?_
             refine pu 4 ?_
             refine pu 5 ?_
             refine pu 7 ?_
             refine pu 9 ?_
             refine ta 6 hHeld ?_
             refine ta 8 hHeld ?_
             refine ta 10 hHeld ?_
             refine on1 11 (fun K hK => ?_)
             refine gs Try.func30 #[.agg #[.int .u64 a0_0, .int .u64 a0_1], .string ((rd_T62 l0_3 x25_2).f0)] ?_
             with_reducible refine (sip_Sum.calls k2 a0_0 a0_1 ((rd_T62 l0_3 x25_2).f0) t185 _ A20.out).mono ?_
             rintro e w54 ⟨rfl, hb⟩
             refine ⟨_, rfl, ?_⟩
             replace BK182 := am (blk_below (pk BK182.out) hb);replace BK184 := am (blk_below (pk BK184.out) hb);replace HB := am (below_step (pb HB) hb)
             (try clear hb)
             (try clear hb2)
             (try clear hk)
             (try clear hi)
             refine hK.out _ _ ⟨ce BK184 0, ce BK184 1, ce BK184 2, ce BK184 3, ce BK182 0, ce BK182 1, ce BK182 2, ce BK182 3⟩ (fun hHeld => ?_)
             clear hK K
             refine nm ?_
             refine pu 12 ?_
             refine pu 13 ?_
             refine pu 14 ?_
             refine pu 15 ?_
             refine pu 17 ?_
             refine ta 16 hHeld ?_
             refine pu 18 ?_
             refine pu 19 ?_
             refine pu 20 ?_
             refine pu 21 ?_
             refine pu 22 ?_
             refine pu 23 ?_
             refine po 24 ?_
             refine po 25 ?_
             refine po 26 ?_
             refine po 27 ?_
             refine po 28 ?_
             refine po 29 ?_
             refine po 30 ?_
             refine po 31 ?_
             refine po 32 ?_
             refine pu 33 ?_
             refine pu 34 ?_
             refine done_ (done_of HT_.out (by kernel_rfl)) ?_
             try go_wp2
             go_roundg k2
             case measure => have := HJ1.out; have := HK2.out; omega
             case rel => exact ⟨(wrap64 (x25_2 + 1)), (by first | rfl | (simp; done) | (simp [*]; done)), H', ⟨by have := HJ1.out; have := HK2.out; omega⟩, ⟨pk BK182.out⟩, ⟨pb HB⟩⟩
          ·rw [if_neg c21] at H;have c21b0 : (((rd_T62 l0_3 x25_2).f1) == t185) = false := beq_eq_false_iff_ne.mpr c21;have c21b1 : (((rd_T62 l0_3 x25_2).f1) != t185) = true := bne_iff_ne.mpr c21;obtain rfl := Option.some.inj H;have p183 : 0 ≤ (x25_2 : Int) := of_decide_eq_true (by first | (with_reducible assumption) | assumption);have q183 : x25_2 < (l0_3.length : Int) := of_decide_eq_true (by first | (with_reducible assumption) | assumption);obtain ⟨ad183, e183, hx183_0, hx183_1, hx183_2, hx183_3⟩ := at_T62 HR0_3.out x25_2 p183 q183;cases e183;replace hx183_0 := (HB.out.cell (World.block_lt_of_cell? w _ hx183_0)).trans hx183_0;replace hx183_1 := (HB.out.cell (World.block_lt_of_cell? w _ hx183_1)).trans hx183_1;replace hx183_2 := (HB.out.cell (World.block_lt_of_cell? w _ hx183_2)).trans hx183_2;replace hx183_3 := (HB.out.cell (World.block_lt_of_cell? w _ hx183_3)).trans hx183_3;replace p183 := eq_true p183;replace q183 := eq_true q183
           try go_wp2_with (first | ((with_reducible refine gate_dst (N := 4) rfl ?_); (try (refine gate_guard (by rfl) ?_; dsimp only)); refine be 4 #[.string (⟨#[]⟩ : ByteArray), .int .u64 0, .int .u64 0, .int .u64 0] 62 ?_; intro gb184 hg w55 hbox hb; have BK184 := am (hbox); have GW184 := am ((pg hg HB : w.heap.size ≤ gb184)); have GE184 := am ((pg hg HB : w.heap.size ≤ gb184)); replace HB := am (below_step (pb HB) hb); obtain ⟨NB182_184, NB184_182, hnc56, hnb56⟩ := pm hg BK182; replace BK182 := am (blk_below (pk BK182.out) hb); clear hb hbox hg; obtain ⟨hcz57_0, hcz57_1, hcz57_2, hcz57_3, hfz57_0, hfz57_1, hfz57_2, hfz57_3⟩ := g4 BK184))
           have n0_ : Aside0 (((((w55.setCell ⟨gb184, 0, none⟩ (.string ((rd_T62 l0_3 x25_2).f0))).setCell ⟨gb184, 1, none⟩ (.int .u64 ((rd_T62 l0_3 x25_2).f1))).setCell ⟨gb184, 2, none⟩ (.int .u64 ((rd_T62 l0_3 x25_2).f2.f0))).setCell ⟨gb184, 3, none⟩ (.int .u64 ((rd_T62 l0_3 x25_2).f2.f1))).heap[gb182]? = some (.cells #[.int .u64 a0_0, .int .u64 a0_1, .int .i64 a0_2, .slice (some ad183) l0_3.length c0_3] 27 (0, 0))) := ⟨by refine pk ?_; refine blk_far ?_ NB182_184.out _; refine pk ?_; refine blk_far ?_ NB182_184.out _; refine pk ?_; refine blk_far ?_ NB182_184.out _; refine pk ?_; refine blk_far ?_ NB182_184.out _; refine pk ?_; exact BK182.out⟩;have n1_ : Aside0 (((((w55.setCell ⟨gb184, 0, none⟩ (.string ((rd_T62 l0_3 x25_2).f0))).setCell ⟨gb184, 1, none⟩ (.int .u64 ((rd_T62 l0_3 x25_2).f1))).setCell ⟨gb184, 2, none⟩ (.int .u64 ((rd_T62 l0_3 x25_2).f2.f0))).setCell ⟨gb184, 3, none⟩ (.int .u64 ((rd_T62 l0_3 x25_2).f2.f1))).heap[gb184]? = some (.cells #[.string ((rd_T62 l0_3 x25_2).f0), .int .u64 ((rd_T62 l0_3 x25_2).f1), .int .u64 ((rd_T62 l0_3 x25_2).f2.f0), .int .u64 ((rd_T62 l0_3 x25_2).f2.f1)] 62 (0, 0))) := ⟨by refine pk ?_; refine blk_put (cs := #[.string ((rd_T62 l0_3 x25_2).f0), .int .u64 ((rd_T62 l0_3 x25_2).f1), .int .u64 ((rd_T62 l0_3 x25_2).f2.f0), .int .u64 0]) ?_ 3 _ rfl; refine pk ?_; refine blk_put (cs := #[.string ((rd_T62 l0_3 x25_2).f0), .int .u64 ((rd_T62 l0_3 x25_2).f1), .int .u64 0, .int .u64 0]) ?_ 2 _ rfl; refine pk ?_; refine blk_put (cs := #[.string ((rd_T62 l0_3 x25_2).f0), .int .u64 0, .int .u64 0, .int .u64 0]) ?_ 1 _ rfl; refine pk ?_; refine blk_put (cs := #[.string (⟨#[]⟩ : ByteArray), .int .u64 0, .int .u64 0, .int .u64 0]) ?_ 0 _ rfl; refine pk ?_; exact BK184.out⟩;have n2_ : Aside0 (Below w.heap.size w ((((w55.setCell ⟨gb184, 0, none⟩ (.string ((rd_T62 l0_3 x25_2).f0))).setCell ⟨gb184, 1, none⟩ (.int .u64 ((rd_T62 l0_3 x25_2).f1))).setCell ⟨gb184, 2, none⟩ (.int .u64 ((rd_T62 l0_3 x25_2).f2.f0))).setCell ⟨gb184, 3, none⟩ (.int .u64 ((rd_T62 l0_3 x25_2).f2.f1)))) := ⟨pb HB⟩
           (try clear BK182)
           (try clear BK184)
           (try clear HB)
           generalize ((((w55.setCell ⟨gb184, 0, none⟩ (.string ((rd_T62 l0_3 x25_2).f0))).setCell ⟨gb184, 1, none⟩ (.int .u64 ((rd_T62 l0_3 x25_2).f1))).setCell ⟨gb184, 2, none⟩ (.int .u64 ((rd_T62 l0_3 x25_2).f2.f0))).setCell ⟨gb184, 3, none⟩ (.int .u64 ((rd_T62 l0_3 x25_2).f2.f1))) = w58 at n0_ n1_ n2_ ⊢
           have BK182 := n0_;have BK184 := n1_;have HB := n2_;clear n0_ n1_ n2_;replace BK182 := am (blk_drew BK182.out);replace BK184 := am (blk_drew BK184.out);replace HB := am (below_drew1 HB.out)
           refine start_ (n := 35) (S := fun w' => w'.cell? ⟨gb184, 0, none⟩ = some (.string ((rd_T62 l0_3 x25_2).f0)) ∧ w'.cell? ⟨gb184, 1, none⟩ = some (.int .u64 ((rd_T62 l0_3 x25_2).f1)) ∧ w'.cell? ⟨gb184, 2, none⟩ = some (.int .u64 ((rd_T62 l0_3 x25_2).f2.f0)) ∧ w'.cell? ⟨gb184, 3, none⟩ = some (.int .u64 ((rd_T62 l0_3 x25_2).f2.f1)) ∧ w'.cell? ⟨gb182, 0, none⟩ = some (.int .u64 a0_0) ∧ w'.cell? ⟨gb182, 1, none⟩ = some (.int .u64 a0_1) ∧ w'.cell? ⟨gb182, 2, none⟩ = some (.int .i64 a0_2) ∧ w'.cell? ⟨gb182, 3, none⟩ = some (.slice (some ad183) l0_3.length c0_3)) (ds := []) #[false, false, false, false, false, false, false, false, false, false, false, false, false, false, false, false, false, false, false, false, false, false, false, false, false, false, false, false, false, false, false, false, false, false, false] (by kernel_rfl) rfl rfl ⟨ce BK184 0, ce BK184 1, ce BK184 2, ce BK184 3, ce BK182 0, ce BK182 1, ce BK182 2, ce BK182 3⟩ (fun hHeld => ?_); refine with_tabW bottom_Right.tab6 bottom_Right.bits6 (fun HT_ HW_ => ?_)
           generalize w58.drew = w59 at BK182 BK184 HB hHeld ⊢
           refine pu 0 ?_
           refine ta 1 hHeld ?_
           refine pu 2 ?_
           refine pu 3 ?_
           refine pu 4 ?_
           refine pu 5 ?_
           refine pu 7 ?_
           refine pu 9 ?_
           refine ta 6 hHeld ?_
           refine ta 8 hHeld ?_
           refine ta 10 hHeld ?_
           refine on1 11 (fun K hK => ?_)
           refine gs Try.func30 #[.agg #[.int .u64 a0_0, .int .u64 a0_1], .string ((rd_T62 l0_3 x25_2).f0)] ?_
           with_reducible refine (sip_Sum.calls k2 a0_0 a0_1 ((rd_T62 l0_3 x25_2).f0) t185 _ A20.out).mono ?_
           rintro e w60 ⟨rfl, hb⟩
           refine ⟨_, rfl, ?_⟩
           replace BK182 := am (blk_below (pk BK182.out) hb);replace BK184 := am (blk_below (pk BK184.out) hb);replace HB := am (below_step (pb HB) hb)
           (try clear hb)
           (try clear hb2)
           (try clear hk)
           (try clear hi)
           refine hK.out _ _ ⟨ce BK184 0, ce BK184 1, ce BK184 2, ce BK184 3, ce BK182 0, ce BK182 1, ce BK182 2, ce BK182 3⟩ (fun hHeld => ?_)
           clear hK K
           refine nm ?_
           refine pu 12 ?_
           refine pu 13 ?_
           refine pu 14 ?_
           refine po 15 ?_
           refine po 16 ?_
           refine po 17 ?_
           refine po 18 ?_
           refine pu 19 ?_
           refine pu 20 ?_
           refine po 21 ?_
           refine po 22 ?_
           refine po 23 ?_
           refine po 24 ?_
           refine po 25 ?_
           refine po 26 ?_
           refine po 27 ?_
           refine po 28 ?_
           refine po 29 ?_
           refine po 30 ?_
           refine po 31 ?_
           refine po 32 ?_
           refine po 33 ?_
           refine pu 34 ?_
           refine done_ (done_of HT_.out (by kernel_rfl)) ?_
           try go_wp2
           go_ret
           exact ⟨by first | rfl | (simp [errW_none, errW_some] <;> rfl) | (simp [*, errW_none, errW_some] <;> rfl), pb HB⟩
        ·rw [if_neg c13] at H;exact absurd H (by simp)
       ·rw [if_neg c12] at H;exact absurd H (by simp)
      ·rw [if_neg c11] at H;have c11b0 : decide (x25_2 < (l0_3.length : Int)) = false := decide_eq_false c11;clear c11;obtain rfl := Option.some.inj H
       go_wp2
       go_ret
       exact ⟨by first | rfl | (simp [errW_none, errW_some] <;> rfl) | (simp [*, errW_none, errW_some] <;> rfl), pb HB⟩
end Go.Proofs.Ytmfffbafldbihaa.H
