import Derived.Test.YtmfffbafldbihaaHx0
import Derived.Test.YtmfffbafldbihaaHx16
namespace Go.Proofs.Ytmfffbafldbihaa.H
open Go.RowKit Go.Proofs.YtmfffbafldbihaaW.PrintWords Go.Proofs.YtmfffbafldbihaaW.PrintLast Go.Proofs.YtmfffbafldbihaaW.PrintMore Go.Proofs.YtmfffbafldbihaaW.Sq
attribute [local go_sem] max2_int min2_int max_two min_two max_three min_three max_four min_four
set_option linter.unusedVariables false
set_option linter.unusedSimpArgs false

mutual
def r05_Sum.l0 : Nat → ByteArray → Int → Int → Int → Int → Int → Option (Int)
 | 0, _, _, _, _, _, _ => none
 | k + 1, x1, x6, x302000, x302001, x302002, x302003 => if x6 ≤ (x1.size : Int) then (r05_Sum.l1 k x1 x6 0 0 x302000 x302001 x302002 x302003) else ((r05_turns.f k x302000 x302001 (Go.bits .xor .u64 x302002 255) x302003 4).bind fun bt302 => (some (Go.bits .xor .u64 (Go.bits .xor .u64 (Go.bits .xor .u64 bt302.1 bt302.2.1) bt302.2.2.1) bt302.2.2.2)))
def r05_Sum.l1 : Nat → ByteArray → Int → Int → Int → Int → Int → Int → Int → Option (Int)
 | 0, _, _, _, _, _, _, _, _ => none
 | k + 1, x1, x6, x7, x8, x302000, x302001, x302002, x302003 => if x8 < 8 then (if (wrap64 (x6 + x8)) < (x1.size : Int) then (if 0 ≤ (wrap64 (x6 + x8)) then (if x8 = 7 then (if (wrap64 (x6 + 8)) > (x1.size : Int) then (if 0 ≤ (IntKind.u64.wrap (wrap64 (8 * x8))) then (r05_Sum.l1 k x1 x6 (Go.bits .or .u64 x7 (shl .u64 ((x1.size : Int) % 256) (IntKind.u64.wrap (wrap64 (8 * x8))))) (wrap64 (x8 + 1)) x302000 x302001 x302002 x302003) else (none)) else (if 0 ≤ (IntKind.u64.wrap (wrap64 (8 * x8))) then (r05_Sum.l1 k x1 x6 (Go.bits .or .u64 x7 (shl .u64 (IntKind.u64.wrap (bt x1 (wrap64 (x6 + x8)))) (IntKind.u64.wrap (wrap64 (8 * x8))))) (wrap64 (x8 + 1)) x302000 x302001 x302002 x302003) else (none))) else (if 0 ≤ (IntKind.u64.wrap (wrap64 (8 * x8))) then (r05_Sum.l1 k x1 x6 (Go.bits .or .u64 x7 (shl .u64 (IntKind.u64.wrap (bt x1 (wrap64 (x6 + x8)))) (IntKind.u64.wrap (wrap64 (8 * x8))))) (wrap64 (x8 + 1)) x302000 x302001 x302002 x302003) else (none))) else (none)) else (if x8 = 7 then (if (wrap64 (x6 + 8)) > (x1.size : Int) then (if 0 ≤ (IntKind.u64.wrap (wrap64 (8 * x8))) then (r05_Sum.l1 k x1 x6 (Go.bits .or .u64 x7 (shl .u64 ((x1.size : Int) % 256) (IntKind.u64.wrap (wrap64 (8 * x8))))) (wrap64 (x8 + 1)) x302000 x302001 x302002 x302003) else (none)) else (if 0 ≤ (IntKind.u64.wrap (wrap64 (8 * x8))) then (r05_Sum.l1 k x1 x6 (Go.bits .or .u64 x7 (shl .u64 0 (IntKind.u64.wrap (wrap64 (8 * x8))))) (wrap64 (x8 + 1)) x302000 x302001 x302002 x302003) else (none))) else (if 0 ≤ (IntKind.u64.wrap (wrap64 (8 * x8))) then (r05_Sum.l1 k x1 x6 (Go.bits .or .u64 x7 (shl .u64 0 (IntKind.u64.wrap (wrap64 (8 * x8))))) (wrap64 (x8 + 1)) x302000 x302001 x302002 x302003) else (none)))) else ((r05_turns.f k x302000 x302001 x302002 (Go.bits .xor .u64 x302003 x7) 2).bind fun bt306 => (r05_Sum.l0 k x1 (wrap64 (x6 + 8)) (Go.bits .xor .u64 bt306.1 x7) bt306.2.1 bt306.2.2.1 bt306.2.2.2))
end
def r05_Sum.f (k : Nat) (a0_0 : Int) (a0_1 : Int) (a1 : ByteArray) : Option (Int) := r05_Sum.l0 k a1 0 (Go.bits .xor .u64 a0_0 8317987319222330741) (Go.bits .xor .u64 a0_1 7237128888997146477) (Go.bits .xor .u64 a0_0 7816392313619706465) (Go.bits .xor .u64 a0_1 8387220255154660723)
theorem r05_Sum.mono_l : ∀ k, (∀ y0 y1 y2 y3 y4 y5, LeO (r05_Sum.l0 k y0 y1 y2 y3 y4 y5) (r05_Sum.l0 (k + 1) y0 y1 y2 y3 y4 y5)) ∧ (∀ y0 y1 y2 y3 y4 y5 y6 y7, LeO (r05_Sum.l1 k y0 y1 y2 y3 y4 y5 y6 y7) (r05_Sum.l1 (k + 1) y0 y1 y2 y3 y4 y5 y6 y7))
 | 0 => ⟨fun _ _ _ _ _ _ r h => by simp [r05_Sum.l0] at h, fun _ _ _ _ _ _ _ _ r h => by simp [r05_Sum.l1] at h⟩
 | k + 1 => by
  obtain ⟨ih0, ih1⟩ := r05_Sum.mono_l k
  refine ⟨?_, ?_⟩
  ·intro y0 y1 y2 y3 y4 y5
   unfold r05_Sum.l0
   repeat' first
   | (with_reducible exact ih0 _ _ _ _ _ _)
   | (with_reducible exact ih1 _ _ _ _ _ _ _ _)
   | (with_reducible exact r05_turns.mono _ _ _ _ _ _)
   | (with_reducible exact LeO.refl _)
   | (with_reducible exact LeO.none _)
   | (with_reducible refine LeO.ite ?_ ?_)
   | (with_reducible refine LeO.bind ?_ (fun _ => ?_))
  ·intro y0 y1 y2 y3 y4 y5 y6 y7
   unfold r05_Sum.l1
   repeat' first
   | (with_reducible exact ih0 _ _ _ _ _ _)
   | (with_reducible exact ih1 _ _ _ _ _ _ _ _)
   | (with_reducible exact r05_turns.mono _ _ _ _ _ _)
   | (with_reducible exact LeO.refl _)
   | (with_reducible exact LeO.none _)
   | (with_reducible refine LeO.ite ?_ ?_)
   | (with_reducible refine LeO.bind ?_ (fun _ => ?_))
theorem r05_Sum.mono : ∀ a0 a1 a2 k, LeO (r05_Sum.f k a0 a1 a2) (r05_Sum.f (k + 1) a0 a1 a2) := by
 intro a0 a1 a2 k
 obtain ⟨ih0, ih1⟩ := r05_Sum.mono_l k
 unfold r05_Sum.f
 repeat' first
   | (with_reducible exact ih0 _ _ _ _ _ _)
   | (with_reducible exact ih1 _ _ _ _ _ _ _ _)
   | (with_reducible exact r05_turns.mono _ _ _ _ _ _)
   | (with_reducible exact LeO.refl _)
   | (with_reducible exact LeO.none _)
   | (with_reducible refine LeO.ite ?_ ?_)
   | (with_reducible refine LeO.bind ?_ (fun _ => ?_))
set_option maxHeartbeats 8000000 in
set_option maxRecDepth 100000 in
theorem r05_Sum.calls (k : Nat) (a0_0 : Int) (a0_1 : Int) (a1 : ByteArray) (r : Int) (w : World) (h : r05_Sum.f k a0_0 a0_1 a1 = some r) :
  Calls Try.prog 22 #[.agg #[.int .u64 a0_0, .int .u64 a0_1], .string a1] w fun e w' => e = .returned (.int .u64 r) ∧ Below w.heap.size w w' := by
 have hu24 := Try.underlying24;have hu75 := Try.underlying75;have HB := am (Below.refl w.heap.size w);have H : (r05_Sum.l0 k a1 0 (Go.bits .xor .u64 a0_0 8317987319222330741) (Go.bits .xor .u64 a0_1 7237128888997146477) (Go.bits .xor .u64 a0_0 7816392313619706465) (Go.bits .xor .u64 a0_1 8387220255154660723)) = some r := h;clear h;have H' := am H;clear H
 go_enter Try.func22, Try.ntmps22
 go_wp2_with (first | ((with_reducible refine gate_dst (N := 2) rfl ?_); (try (refine gate_guard (by rfl) ?_; dsimp only)); refine be 2 #[.int .u64 a0_0, .int .u64 a0_1] 24 ?_; intro gb300 hg w3 hbox hb; have BK300 := am (hbox); have GW300 := am ((pg hg HB : w.heap.size ≤ gb300)); have GE300 := am ((pg hg HB : w.heap.size ≤ gb300)); replace HB := am (below_step (pb HB) hb); clear hb hbox hg; obtain ⟨hcz4_0, hcz4_1, hfz4_0, hfz4_1⟩ := g2 BK300) | ((with_reducible refine gate_dst (N := 5) rfl ?_); (try (refine gate_guard (by rfl) ?_; dsimp only)); refine be 5 #[.int .u64 0, .int .u64 0, .int .u64 0, .int .u64 0] 75 ?_; intro gb301 hg w5 hbox hb; have BK301 := am (hbox); have GW301 := am ((pg hg HB : w.heap.size ≤ gb301)); have GE301 := am ((pg hg HB : w.heap.size ≤ gb301)); replace HB := am (below_step (pb HB) hb); obtain ⟨NB300_301, NB301_300, hnc6, hnb6⟩ := pm hg BK300; replace BK300 := am (blk_below (pk BK300.out) hb); clear hb hbox hg; obtain ⟨hcz7_0, hcz7_1, hcz7_2, hcz7_3, hfz7_0, hfz7_1, hfz7_2, hfz7_3⟩ := g4 BK301))
 go_loopg [6] k (fun kq v6 w' => ∃ (x6_1 : Int) (x302000_1 : Int) (x302001_1 : Int) (x302002_1 : Int) (x302003_1 : Int), v6 = .int .i64 x6_1 ∧ Aside0 (r05_Sum.l0 kq a1 x6_1 x302000_1 x302001_1 x302002_1 x302003_1 = some r) ∧ Aside0 (kq ≤ k) ∧ Aside0 (w'.heap[gb300]? = some (.cells #[.int .u64 a0_0, .int .u64 a0_1] 24 (0, 0))) ∧ Aside0 (w'.heap[gb301]? = some (.cells #[.int .u64 x302000_1, .int .u64 x302001_1, .int .u64 x302002_1, .int .u64 x302003_1] 75 (0, 0))) ∧ Aside0 (Below w.heap.size w w'))
 case atStart => exact ⟨(0), (Go.bits .xor .u64 a0_0 8317987319222330741), (Go.bits .xor .u64 a0_1 7237128888997146477), (Go.bits .xor .u64 a0_0 7816392313619706465), (Go.bits .xor .u64 a0_1 8387220255154660723), (by first | rfl | (simp; done) | (simp [*]; done)), H', ⟨Nat.le_refl _⟩, ⟨by refine pk ?_; refine blk_far ?_ NB300_301.out _; refine pk ?_; refine blk_far ?_ NB300_301.out _; refine pk ?_; refine blk_far ?_ NB300_301.out _; refine pk ?_; refine blk_far ?_ NB300_301.out _; refine pk ?_; exact BK300.out⟩, ⟨by refine pk ?_; refine blk_put (cs := #[.int .u64 (Go.bits .xor .u64 a0_0 8317987319222330741), .int .u64 (Go.bits .xor .u64 a0_1 7237128888997146477), .int .u64 (Go.bits .xor .u64 a0_0 7816392313619706465), .int .u64 0]) ?_ 3 _ rfl; refine pk ?_; refine blk_put (cs := #[.int .u64 (Go.bits .xor .u64 a0_0 8317987319222330741), .int .u64 (Go.bits .xor .u64 a0_1 7237128888997146477), .int .u64 0, .int .u64 0]) ?_ 2 _ rfl; refine pk ?_; refine blk_put (cs := #[.int .u64 (Go.bits .xor .u64 a0_0 8317987319222330741), .int .u64 0, .int .u64 0, .int .u64 0]) ?_ 1 _ rfl; refine pk ?_; refine blk_put (cs := #[.int .u64 0, .int .u64 0, .int .u64 0, .int .u64 0]) ?_ 0 _ rfl; refine pk ?_; exact BK301.out⟩, ⟨pb HB⟩⟩
 case round =>
  clear H';(try clear c2);(try clear p2);(try clear c6);(try clear hcz4_0 hcz4_1);(try clear hcz7_0 hcz7_1 hcz7_2 hcz7_3);(try clear hfz4_0 hfz4_1);(try clear hfz7_0 hfz7_1 hfz7_2 hfz7_3);obtain ⟨x6_1, x302000_1, x302001_1, x302002_1, x302003_1, rfl, HA, HK1, BK300, BK301, HB⟩ := hrel
  cases gk with
  | zero => exact absurd HA.out (by simp [r05_Sum.l0])
  | succ k1 =>
   have H := HA.out;clear HA
   simp only [r05_Sum.l0] at H
   by_cases c8 : x6_1 ≤ (a1.size : Int)
   ·rw [if_pos c8] at H;have c8b0 : decide (x6_1 ≤ (a1.size : Int)) = true := decide_eq_true c8;clear c8;have H' := am H;clear H
    go_wp2
    go_loopg [7, 8] k1 (fun kq v7 v8 w' => ∃ (x7_2 : Int) (x8_2 : Int), v7 = .int .u64 x7_2 ∧ v8 = .int .i64 x8_2 ∧ Aside0 (r05_Sum.l1 kq a1 x6_1 x7_2 x8_2 x302000_1 x302001_1 x302002_1 x302003_1 = some r) ∧ Aside0 (kq ≤ k1) ∧ Aside0 (w'.heap[gb300]? = some (.cells #[.int .u64 a0_0, .int .u64 a0_1] 24 (0, 0))) ∧ Aside0 (w'.heap[gb301]? = some (.cells #[.int .u64 x302000_1, .int .u64 x302001_1, .int .u64 x302002_1, .int .u64 x302003_1] 75 (0, 0))) ∧ Aside0 (Below w.heap.size w w'))
    case atStart => exact ⟨(0), (0), (by first | rfl | (simp; done) | (simp [*]; done)), (by first | rfl | (simp; done) | (simp [*]; done)), H', ⟨Nat.le_refl _⟩, ⟨pk BK300.out⟩, ⟨pk BK301.out⟩, ⟨pb HB⟩⟩
    case round =>
     clear H';(try clear c2);(try clear p2);(try clear c6);(try clear c8);(try clear c8b0);(try clear hcz4_0 hcz4_1);(try clear hcz7_0 hcz7_1 hcz7_2 hcz7_3);(try clear hfz4_0 hfz4_1);(try clear hfz7_0 hfz7_1 hfz7_2 hfz7_3);(try clear p2);obtain ⟨x7_2, x8_2, rfl, rfl, HA, HK2, BK300, BK301, HB⟩ := hrel
     cases gk with
     | zero => exact absurd HA.out (by simp [r05_Sum.l1])
     | succ k2 =>
      have H := HA.out;clear HA
      simp only [r05_Sum.l1] at H
      by_cases c9 : x8_2 < 8
      ·rw [if_pos c9] at H;have c9b0 : decide (x8_2 < 8) = true := decide_eq_true c9;clear c9
       by_cases c10 : (wrap64 (x6_1 + x8_2)) < (a1.size : Int)
       ·rw [if_pos c10] at H;have c10b0 : decide ((wrap64 (x6_1 + x8_2)) < (a1.size : Int)) = true := decide_eq_true c10;clear c10;obtain ⟨ji11, hji11⟩ : ∃ j_ : Int, (wrap64 (x6_1 + x8_2)) = j_ := ⟨_, rfl⟩
        replace H : (if 0 ≤ (ji11) then (if x8_2 = 7 then (if (wrap64 (x6_1 + 8)) > (a1.size : Int) then (if 0 ≤ (IntKind.u64.wrap (wrap64 (8 * x8_2))) then (r05_Sum.l1 k2 a1 x6_1 (Go.bits .or .u64 x7_2 (shl .u64 ((a1.size : Int) % 256) (IntKind.u64.wrap (wrap64 (8 * x8_2))))) (wrap64 (x8_2 + 1)) x302000_1 x302001_1 x302002_1 x302003_1) else (none)) else (if 0 ≤ (IntKind.u64.wrap (wrap64 (8 * x8_2))) then (r05_Sum.l1 k2 a1 x6_1 (Go.bits .or .u64 x7_2 (shl .u64 (IntKind.u64.wrap (bt a1 (ji11))) (IntKind.u64.wrap (wrap64 (8 * x8_2))))) (wrap64 (x8_2 + 1)) x302000_1 x302001_1 x302002_1 x302003_1) else (none))) else (if 0 ≤ (IntKind.u64.wrap (wrap64 (8 * x8_2))) then (r05_Sum.l1 k2 a1 x6_1 (Go.bits .or .u64 x7_2 (shl .u64 (IntKind.u64.wrap (bt a1 (ji11))) (IntKind.u64.wrap (wrap64 (8 * x8_2))))) (wrap64 (x8_2 + 1)) x302000_1 x302001_1 x302002_1 x302003_1) else (none))) else (none)) = some r := by first | (rw [hji11] at H; exact H) | (simp only [hji11] at H ⊢; exact H)
        (try rw [hji11] at c10b0)
        have hji11w : (IntKind.i64.wrap (x6_1 + x8_2)) = ji11 := (i64_w _).trans hji11
        by_cases c12 : 0 ≤ (ji11)
        ·rw [if_pos c12] at H;have c12b0 : decide (0 ≤ (ji11)) = true := decide_eq_true c12;clear c12
         by_cases c14 : x8_2 = 7
         ·rw [if_pos c14] at H;have c14b0 : (x8_2 == 7) = true := beq_iff_eq.mpr c14;have c14b1 : (x8_2 != 7) = false := bne_eq_false_iff_eq.mpr c14;clear c14
          by_cases c15 : (wrap64 (x6_1 + 8)) > (a1.size : Int)
          ·rw [if_pos c15] at H;have c15b0 : decide ((a1.size : Int) < (wrap64 (x6_1 + 8))) = true := decide_eq_true c15;clear c15;obtain ⟨ji16, hji16⟩ : ∃ j_ : Int, (IntKind.u64.wrap (wrap64 (8 * x8_2))) = j_ := ⟨_, rfl⟩
           replace H : (if 0 ≤ (ji16) then (r05_Sum.l1 k2 a1 x6_1 (Go.bits .or .u64 x7_2 (shl .u64 ((a1.size : Int) % 256) (ji16))) (wrap64 (x8_2 + 1)) x302000_1 x302001_1 x302002_1 x302003_1) else (none)) = some r := by first | (rw [hji16] at H; exact H) | (simp only [hji16] at H ⊢; exact H)
           by_cases c17 : 0 ≤ (ji16)
           ·rw [if_pos c17] at H;have c17b0 := eq_true c17;have c17b1 : decide (0 ≤ (ji16)) = true := decide_eq_true c17;clear c17;obtain ⟨ji18, hji18⟩ : ∃ j_ : Int, (shl .u64 ((a1.size : Int) % 256) (ji16)) = j_ := ⟨_, rfl⟩
            replace H : (r05_Sum.l1 k2 a1 x6_1 (Go.bits .or .u64 x7_2 (ji18)) (wrap64 (x8_2 + 1)) x302000_1 x302001_1 x302002_1 x302003_1) = some r := by first | (rw [hji18] at H; exact H) | (simp only [hji18] at H ⊢; exact H)
            have hji18_ : (IntKind.u64.wrap (((a1.size : Int) % 256) * 2 ^ min (ji16).toNat 64)) = ji18 := hji18;have hji18z : (ji16) ≤ 64 → (IntKind.u64.wrap (((a1.size : Int) % 256) * 2 ^ (ji16).toNat)) = ji18 := shl_small hji18;have H' := am H;clear H;have p13 : 0 ≤ ((ji11) : Int) := of_decide_eq_true (by first | (with_reducible assumption) | assumption);have q13 : (ji11) < (a1.size : Int) := of_decide_eq_true (by first | (with_reducible assumption) | assumption);have hx13 := bt_at a1 (ji11);replace p13 := eq_true p13;replace q13 := eq_true q13
            go_wp2
            go_roundg k2
            case measure => have := HK1.out; have := HK2.out; omega
            case rel => exact ⟨(Go.bits .or .u64 x7_2 (ji18)), (wrap64 (x8_2 + 1)), (by first | rfl | (simp; done) | (simp only [← hji18] <;> (first | rfl | (simp; done) | (simp [show ∀ j_ : Int, shl .u64 0 j_ = 0 from fun j_ => by unfold shl; rw [Int.zero_mul]; decide]; done))) | (simp [*]; done)), (by first | rfl | (simp; done) | (simp [*]; done)), H', ⟨by have := HK1.out; have := HK2.out; omega⟩, ⟨pk BK300.out⟩, ⟨pk BK301.out⟩, ⟨pb HB⟩⟩
           ·rw [if_neg c17] at H;exact absurd H (by simp)
          ·rw [if_neg c15] at H;have c15b0 : decide ((a1.size : Int) < (wrap64 (x6_1 + 8))) = false := decide_eq_false c15;clear c15;obtain ⟨ji19, hji19⟩ : ∃ j_ : Int, (IntKind.u64.wrap (wrap64 (8 * x8_2))) = j_ := ⟨_, rfl⟩
           replace H : (if 0 ≤ (ji19) then (r05_Sum.l1 k2 a1 x6_1 (Go.bits .or .u64 x7_2 (shl .u64 (IntKind.u64.wrap (bt a1 (ji11))) (ji19))) (wrap64 (x8_2 + 1)) x302000_1 x302001_1 x302002_1 x302003_1) else (none)) = some r := by first | (rw [hji19] at H; exact H) | (simp only [hji19] at H ⊢; exact H)
           by_cases c20 : 0 ≤ (ji19)
           ·rw [if_pos c20] at H;have c20b0 := eq_true c20;have c20b1 : decide (0 ≤ (ji19)) = true := decide_eq_true c20;clear c20;obtain ⟨ji21, hji21⟩ : ∃ j_ : Int, (shl .u64 (IntKind.u64.wrap (bt a1 (ji11))) (ji19)) = j_ := ⟨_, rfl⟩
            replace H : (r05_Sum.l1 k2 a1 x6_1 (Go.bits .or .u64 x7_2 (ji21)) (wrap64 (x8_2 + 1)) x302000_1 x302001_1 x302002_1 x302003_1) = some r := by first | (rw [hji21] at H; exact H) | (simp only [hji21] at H ⊢; exact H)
            have hji21_ : (IntKind.u64.wrap ((IntKind.u64.wrap (bt a1 (ji11))) * 2 ^ min (ji19).toNat 64)) = ji21 := hji21;have hji21z : (ji19) ≤ 64 → (IntKind.u64.wrap ((IntKind.u64.wrap (bt a1 (ji11))) * 2 ^ (ji19).toNat)) = ji21 := shl_small hji21;have H' := am H;clear H;have p13 : 0 ≤ ((ji11) : Int) := of_decide_eq_true (by first | (with_reducible assumption) | assumption);have q13 : (ji11) < (a1.size : Int) := of_decide_eq_true (by first | (with_reducible assumption) | assumption);have hx13 := bt_at a1 (ji11);replace p13 := eq_true p13;replace q13 := eq_true q13
            go_wp2
            go_roundg k2
            case measure => have := HK1.out; have := HK2.out; omega
            case rel => exact ⟨(Go.bits .or .u64 x7_2 (ji21)), (wrap64 (x8_2 + 1)), (by first | rfl | (simp; done) | (simp only [← hji21] <;> (first | rfl | (simp; done) | (simp [show ∀ j_ : Int, shl .u64 0 j_ = 0 from fun j_ => by unfold shl; rw [Int.zero_mul]; decide]; done))) | (simp [*]; done)), (by first | rfl | (simp; done) | (simp [*]; done)), H', ⟨by have := HK1.out; have := HK2.out; omega⟩, ⟨pk BK300.out⟩, ⟨pk BK301.out⟩, ⟨pb HB⟩⟩
           ·rw [if_neg c20] at H;exact absurd H (by simp)
         ·rw [if_neg c14] at H;have c14b0 : (x8_2 == 7) = false := beq_eq_false_iff_ne.mpr c14;have c14b1 : (x8_2 != 7) = true := bne_iff_ne.mpr c14;obtain ⟨ji22, hji22⟩ : ∃ j_ : Int, (IntKind.u64.wrap (wrap64 (8 * x8_2))) = j_ := ⟨_, rfl⟩
          replace H : (if 0 ≤ (ji22) then (r05_Sum.l1 k2 a1 x6_1 (Go.bits .or .u64 x7_2 (shl .u64 (IntKind.u64.wrap (bt a1 (ji11))) (ji22))) (wrap64 (x8_2 + 1)) x302000_1 x302001_1 x302002_1 x302003_1) else (none)) = some r := by first | (rw [hji22] at H; exact H) | (simp only [hji22] at H ⊢; exact H)
          by_cases c23 : 0 ≤ (ji22)
          ·rw [if_pos c23] at H;have c23b0 := eq_true c23;have c23b1 : decide (0 ≤ (ji22)) = true := decide_eq_true c23;clear c23;obtain ⟨ji24, hji24⟩ : ∃ j_ : Int, (shl .u64 (IntKind.u64.wrap (bt a1 (ji11))) (ji22)) = j_ := ⟨_, rfl⟩
           replace H : (r05_Sum.l1 k2 a1 x6_1 (Go.bits .or .u64 x7_2 (ji24)) (wrap64 (x8_2 + 1)) x302000_1 x302001_1 x302002_1 x302003_1) = some r := by first | (rw [hji24] at H; exact H) | (simp only [hji24] at H ⊢; exact H)
           have hji24_ : (IntKind.u64.wrap ((IntKind.u64.wrap (bt a1 (ji11))) * 2 ^ min (ji22).toNat 64)) = ji24 := hji24;have hji24z : (ji22) ≤ 64 → (IntKind.u64.wrap ((IntKind.u64.wrap (bt a1 (ji11))) * 2 ^ (ji22).toNat)) = ji24 := shl_small hji24;have H' := am H;clear H;have p13 : 0 ≤ ((ji11) : Int) := of_decide_eq_true (by first | (with_reducible assumption) | assumption);have q13 : (ji11) < (a1.size : Int) := of_decide_eq_true (by first | (with_reducible assumption) | assumption);have hx13 := bt_at a1 (ji11);replace p13 := eq_true p13;replace q13 := eq_true q13
           go_wp2
           go_roundg k2
           case measure => have := HK1.out; have := HK2.out; omega
           case rel => exact ⟨(Go.bits .or .u64 x7_2 (ji24)), (wrap64 (x8_2 + 1)), (by first | rfl | (simp; done) | (simp only [← hji24] <;> (first | rfl | (simp; done) | (simp [show ∀ j_ : Int, shl .u64 0 j_ = 0 from fun j_ => by unfold shl; rw [Int.zero_mul]; decide]; done))) | (simp [*]; done)), (by first | rfl | (simp; done) | (simp [*]; done)), H', ⟨by have := HK1.out; have := HK2.out; omega⟩, ⟨pk BK300.out⟩, ⟨pk BK301.out⟩, ⟨pb HB⟩⟩
          ·rw [if_neg c23] at H;exact absurd H (by simp)
        ·rw [if_neg c12] at H;exact absurd H (by simp)
       ·rw [if_neg c10] at H;have c10b0 : decide ((wrap64 (x6_1 + x8_2)) < (a1.size : Int)) = false := decide_eq_false c10;clear c10
        by_cases c25 : x8_2 = 7
        ·rw [if_pos c25] at H;have c25b0 : (x8_2 == 7) = true := beq_iff_eq.mpr c25;have c25b1 : (x8_2 != 7) = false := bne_eq_false_iff_eq.mpr c25;clear c25
         by_cases c26 : (wrap64 (x6_1 + 8)) > (a1.size : Int)
         ·rw [if_pos c26] at H;have c26b0 : decide ((a1.size : Int) < (wrap64 (x6_1 + 8))) = true := decide_eq_true c26;clear c26;obtain ⟨ji27, hji27⟩ : ∃ j_ : Int, (IntKind.u64.wrap (wrap64 (8 * x8_2))) = j_ := ⟨_, rfl⟩
          replace H : (if 0 ≤ (ji27) then (r05_Sum.l1 k2 a1 x6_1 (Go.bits .or .u64 x7_2 (shl .u64 ((a1.size : Int) % 256) (ji27))) (wrap64 (x8_2 + 1)) x302000_1 x302001_1 x302002_1 x302003_1) else (none)) = some r := by first | (rw [hji27] at H; exact H) | (simp only [hji27] at H ⊢; exact H)
          by_cases c28 : 0 ≤ (ji27)
          ·rw [if_pos c28] at H;have c28b0 := eq_true c28;have c28b1 : decide (0 ≤ (ji27)) = true := decide_eq_true c28;clear c28;obtain ⟨ji29, hji29⟩ : ∃ j_ : Int, (shl .u64 ((a1.size : Int) % 256) (ji27)) = j_ := ⟨_, rfl⟩
           replace H : (r05_Sum.l1 k2 a1 x6_1 (Go.bits .or .u64 x7_2 (ji29)) (wrap64 (x8_2 + 1)) x302000_1 x302001_1 x302002_1 x302003_1) = some r := by first | (rw [hji29] at H; exact H) | (simp only [hji29] at H ⊢; exact H)
           have hji29_ : (IntKind.u64.wrap (((a1.size : Int) % 256) * 2 ^ min (ji27).toNat 64)) = ji29 := hji29;have hji29z : (ji27) ≤ 64 → (IntKind.u64.wrap (((a1.size : Int) % 256) * 2 ^ (ji27).toNat)) = ji29 := shl_small hji29;have H' := am H;clear H
           go_wp2
           go_roundg k2
           case measure => have := HK1.out; have := HK2.out; omega
           case rel => exact ⟨(Go.bits .or .u64 x7_2 (ji29)), (wrap64 (x8_2 + 1)), (by first | rfl | (simp; done) | (simp only [← hji29] <;> (first | rfl | (simp; done) | (simp [show ∀ j_ : Int, shl .u64 0 j_ = 0 from fun j_ => by unfold shl; rw [Int.zero_mul]; decide]; done))) | (simp [*]; done)), (by first | rfl | (simp; done) | (simp [*]; done)), H', ⟨by have := HK1.out; have := HK2.out; omega⟩, ⟨pk BK300.out⟩, ⟨pk BK301.out⟩, ⟨pb HB⟩⟩
          ·rw [if_neg c28] at H;exact absurd H (by simp)
         ·rw [if_neg c26] at H;have c26b0 : decide ((a1.size : Int) < (wrap64 (x6_1 + 8))) = false := decide_eq_false c26;clear c26;obtain ⟨ji30, hji30⟩ : ∃ j_ : Int, (IntKind.u64.wrap (wrap64 (8 * x8_2))) = j_ := ⟨_, rfl⟩
          replace H : (if 0 ≤ (ji30) then (r05_Sum.l1 k2 a1 x6_1 (Go.bits .or .u64 x7_2 (shl .u64 0 (ji30))) (wrap64 (x8_2 + 1)) x302000_1 x302001_1 x302002_1 x302003_1) else (none)) = some r := by first | (rw [hji30] at H; exact H) | (simp only [hji30] at H ⊢; exact H)
          by_cases c31 : 0 ≤ (ji30)
          ·rw [if_pos c31] at H;have c31b0 := eq_true c31;have c31b1 : decide (0 ≤ (ji30)) = true := decide_eq_true c31;clear c31;obtain ⟨ji32, hji32⟩ : ∃ j_ : Int, (shl .u64 0 (ji30)) = j_ := ⟨_, rfl⟩
           replace H : (r05_Sum.l1 k2 a1 x6_1 (Go.bits .or .u64 x7_2 (ji32)) (wrap64 (x8_2 + 1)) x302000_1 x302001_1 x302002_1 x302003_1) = some r := by first | (rw [hji32] at H; exact H) | (simp only [hji32] at H ⊢; exact H)
           have hji32_ : (IntKind.u64.wrap (0 * 2 ^ min (ji30).toNat 64)) = ji32 := hji32;have hji32z : (ji30) ≤ 64 → (IntKind.u64.wrap (0 * 2 ^ (ji30).toNat)) = ji32 := shl_small hji32;have H' := am H;clear H
           go_wp2
           go_roundg k2
           case measure => have := HK1.out; have := HK2.out; omega
           case rel => exact ⟨(Go.bits .or .u64 x7_2 (ji32)), (wrap64 (x8_2 + 1)), (by first | rfl | (simp; done) | (simp only [← hji32] <;> (first | rfl | (simp; done) | (simp [show ∀ j_ : Int, shl .u64 0 j_ = 0 from fun j_ => by unfold shl; rw [Int.zero_mul]; decide]; done))) | (simp [*]; done)), (by first | rfl | (simp; done) | (simp [*]; done)), H', ⟨by have := HK1.out; have := HK2.out; omega⟩, ⟨pk BK300.out⟩, ⟨pk BK301.out⟩, ⟨pb HB⟩⟩
          ·rw [if_neg c31] at H;exact absurd H (by simp)
        ·rw [if_neg c25] at H;have c25b0 : (x8_2 == 7) = false := beq_eq_false_iff_ne.mpr c25;have c25b1 : (x8_2 != 7) = true := bne_iff_ne.mpr c25;obtain ⟨ji33, hji33⟩ : ∃ j_ : Int, (IntKind.u64.wrap (wrap64 (8 * x8_2))) = j_ := ⟨_, rfl⟩
         replace H : (if 0 ≤ (ji33) then (r05_Sum.l1 k2 a1 x6_1 (Go.bits .or .u64 x7_2 (shl .u64 0 (ji33))) (wrap64 (x8_2 + 1)) x302000_1 x302001_1 x302002_1 x302003_1) else (none)) = some r := by first | (rw [hji33] at H; exact H) | (simp only [hji33] at H ⊢; exact H)
         by_cases c34 : 0 ≤ (ji33)
         ·rw [if_pos c34] at H;have c34b0 := eq_true c34;have c34b1 : decide (0 ≤ (ji33)) = true := decide_eq_true c34;clear c34;obtain ⟨ji35, hji35⟩ : ∃ j_ : Int, (shl .u64 0 (ji33)) = j_ := ⟨_, rfl⟩
          replace H : (r05_Sum.l1 k2 a1 x6_1 (Go.bits .or .u64 x7_2 (ji35)) (wrap64 (x8_2 + 1)) x302000_1 x302001_1 x302002_1 x302003_1) = some r := by first | (rw [hji35] at H; exact H) | (simp only [hji35] at H ⊢; exact H)
          have hji35_ : (IntKind.u64.wrap (0 * 2 ^ min (ji33).toNat 64)) = ji35 := hji35;have hji35z : (ji33) ≤ 64 → (IntKind.u64.wrap (0 * 2 ^ (ji33).toNat)) = ji35 := shl_small hji35;have H' := am H;clear H
          go_wp2
          go_roundg k2
          case measure => have := HK1.out; have := HK2.out; omega
          case rel => exact ⟨(Go.bits .or .u64 x7_2 (ji35)), (wrap64 (x8_2 + 1)), (by first | rfl | (simp; done) | (simp only [← hji35] <;> (first | rfl | (simp; done) | (simp [show ∀ j_ : Int, shl .u64 0 j_ = 0 from fun j_ => by unfold shl; rw [Int.zero_mul]; decide]; done))) | (simp [*]; done)), (by first | rfl | (simp; done) | (simp [*]; done)), H', ⟨by have := HK1.out; have := HK2.out; omega⟩, ⟨pk BK300.out⟩, ⟨pk BK301.out⟩, ⟨pb HB⟩⟩
         ·rw [if_neg c34] at H;exact absurd H (by simp)
      ·rw [if_neg c9] at H;have c9b0 : decide (x8_2 < 8) = false := decide_eq_false c9;clear c9;replace H := Option.bind_eq_some_iff.mp H;obtain ⟨⟨t306, t307, t308, t309⟩, A360, H⟩ := H
       try dsimp only at H
       have A36 := am A360;clear A360;have H' := am H;clear H;have hnb37 := NB301_300.out;have hnc37 := NB300_301.out;obtain ⟨hcz38_0, hcz38_1, hcz38_2, hcz38_3, hfz38_0, hfz38_1, hfz38_2, hfz38_3⟩ := g4 BK301
       go_wp2_with (first | ((with_reducible refine gate_callee (f := 34) rfl ?_); refine gl (some 71) Try.func34 #[.agg #[.int .u64 x302000_1, .int .u64 x302001_1, .int .u64 x302002_1, .int .u64 (Go.bits .xor .u64 x302003_1 x7_2)], .int .i64 2] ?_; (with_reducible refine (r05_turns.calls k2 x302000_1 x302001_1 x302002_1 (Go.bits .xor .u64 x302003_1 x7_2) 2 t306 t307 t308 t309 _ A36.out).mono ?_); rintro e w39 ⟨rfl, hb⟩; refine ⟨_, rfl, ?_⟩; replace BK300 := am (blk_below (g := gb300) (o := .cells #[.int .u64 a0_0, .int .u64 a0_1] 24 (0, 0)) (by refine pk ?_; refine blk_far ?_ NB300_301.out _; refine pk ?_; exact BK300.out) hb); replace BK301 := am (blk_below (g := gb301) (o := .cells #[.int .u64 x302000_1, .int .u64 x302001_1, .int .u64 x302002_1, .int .u64 (Go.bits .xor .u64 x302003_1 x7_2)] 75 (0, 0)) (by refine pk ?_; refine blk_put (cs := #[.int .u64 x302000_1, .int .u64 x302001_1, .int .u64 x302002_1, .int .u64 x302003_1]) ?_ 3 _ rfl; refine pk ?_; exact BK301.out) hb); replace HB := am (below_step (pb HB) hb); (try clear hb); (try clear hb2); (try clear hk); (try clear hi); obtain ⟨hcz40_0, hcz40_1, hcz40_2, hcz40_3, hfz40_0, hfz40_1, hfz40_2, hfz40_3⟩ := g4 BK301))
       go_roundg k2
       case measure => have := HK1.out; have := HK2.out; omega
       case rel => exact ⟨(wrap64 (x6_1 + 8)), (Go.bits .xor .u64 t306 x7_2), (t307), (t308), (t309), (by first | rfl | (simp; done) | (simp [*]; done)), H', ⟨by have := HK1.out; have := HK2.out; omega⟩, ⟨by refine pk ?_; refine blk_far ?_ NB300_301.out _; refine pk ?_; refine blk_far ?_ NB300_301.out _; refine pk ?_; refine blk_far ?_ NB300_301.out _; refine pk ?_; refine blk_far ?_ NB300_301.out _; refine pk ?_; refine blk_far ?_ NB300_301.out _; refine pk ?_; exact BK300.out⟩, ⟨by refine pk ?_; refine blk_put (cs := #[.int .u64 t306, .int .u64 t307, .int .u64 t308, .int .u64 t309]) ?_ 0 _ rfl; refine pk ?_; refine blk_put (cs := #[.int .u64 t306, .int .u64 t307, .int .u64 t308, .int .u64 (Go.bits .xor .u64 x302003_1 x7_2)]) ?_ 3 _ rfl; refine pk ?_; refine blk_put (cs := #[.int .u64 t306, .int .u64 t307, .int .u64 x302002_1, .int .u64 (Go.bits .xor .u64 x302003_1 x7_2)]) ?_ 2 _ rfl; refine pk ?_; refine blk_put (cs := #[.int .u64 t306, .int .u64 x302001_1, .int .u64 x302002_1, .int .u64 (Go.bits .xor .u64 x302003_1 x7_2)]) ?_ 1 _ rfl; refine pk ?_; refine blk_put (cs := #[.int .u64 x302000_1, .int .u64 x302001_1, .int .u64 x302002_1, .int .u64 (Go.bits .xor .u64 x302003_1 x7_2)]) ?_ 0 _ rfl; refine pk ?_; exact BK301.out⟩, ⟨pb HB⟩⟩
   ·rw [if_neg c8] at H;have c8b0 : decide (x6_1 ≤ (a1.size : Int)) = false := decide_eq_false c8;clear c8;replace H := Option.bind_eq_some_iff.mp H;obtain ⟨⟨t302, t303, t304, t305⟩, A410, H⟩ := H
    try dsimp only at H
    have A41 := am A410;clear A410;obtain rfl := Option.some.inj H;have hnb42 := NB301_300.out;have hnc42 := NB300_301.out;obtain ⟨hcz43_0, hcz43_1, hcz43_2, hcz43_3, hfz43_0, hfz43_1, hfz43_2, hfz43_3⟩ := g4 BK301
    go_wp2_with (first | ((with_reducible refine gate_callee (f := 34) rfl ?_); refine gl (some 82) Try.func34 #[.agg #[.int .u64 x302000_1, .int .u64 x302001_1, .int .u64 (Go.bits .xor .u64 x302002_1 255), .int .u64 x302003_1], .int .i64 4] ?_; (with_reducible refine (r05_turns.calls k1 x302000_1 x302001_1 (Go.bits .xor .u64 x302002_1 255) x302003_1 4 t302 t303 t304 t305 _ A41.out).mono ?_); rintro e w44 ⟨rfl, hb⟩; refine ⟨_, rfl, ?_⟩; replace BK300 := am (blk_below (g := gb300) (o := .cells #[.int .u64 a0_0, .int .u64 a0_1] 24 (0, 0)) (by refine pk ?_; refine blk_far ?_ NB300_301.out _; refine pk ?_; exact BK300.out) hb); replace BK301 := am (blk_below (g := gb301) (o := .cells #[.int .u64 x302000_1, .int .u64 x302001_1, .int .u64 (Go.bits .xor .u64 x302002_1 255), .int .u64 x302003_1] 75 (0, 0)) (by refine pk ?_; refine blk_put (cs := #[.int .u64 x302000_1, .int .u64 x302001_1, .int .u64 x302002_1, .int .u64 x302003_1]) ?_ 2 _ rfl; refine pk ?_; exact BK301.out) hb); replace HB := am (below_step (pb HB) hb); (try clear hb); (try clear hb2); (try clear hk); (try clear hi); obtain ⟨hcz45_0, hcz45_1, hcz45_2, hcz45_3, hfz45_0, hfz45_1, hfz45_2, hfz45_3⟩ := g4 BK301))
    go_ret
    exact ⟨by first | rfl | (simp [errW_none, errW_some] <;> rfl) | (simp [*, errW_none, errW_some] <;> rfl), pb HB⟩
def r14_Ahead.f (a0_0 : ByteArray) (a0_1 : Int) (a0_2 : Int) (a0_3 : Int) (a1_0 : ByteArray) (a1_1 : Int) (a1_2 : Int) (a1_3 : Int) : Option (Bool) := if a0_1 = a1_1 then (some (Op.bytesLess a0_0.toList a1_0.toList)) else (some (decide (a0_1 < a1_1)))
set_option maxHeartbeats 8000000 in
set_option maxRecDepth 100000 in
theorem r14_Ahead.calls (a0_0 : ByteArray) (a0_1 : Int) (a0_2 : Int) (a0_3 : Int) (a1_0 : ByteArray) (a1_1 : Int) (a1_2 : Int) (a1_3 : Int) (r : Bool) (w : World) (h : r14_Ahead.f a0_0 a0_1 a0_2 a0_3 a1_0 a1_1 a1_2 a1_3 = some r) :
  Calls Try.prog 23 #[.agg #[.string a0_0, .int .u64 a0_1, .int .u64 a0_2, .int .u64 a0_3], .agg #[.string a1_0, .int .u64 a1_1, .int .u64 a1_2, .int .u64 a1_3]] w fun e w' => e = .returned (.bool r) ∧ Below w.heap.size w w' := by
 have hu60 := Try.underlying60;have HB := am (Below.refl w.heap.size w);have H : (if a0_1 = a1_1 then (some (Op.bytesLess a0_0.toList a1_0.toList)) else (some (decide (a0_1 < a1_1)))) = some r := h;clear h
 by_cases c3 : a0_1 = a1_1
 ·rw [if_pos c3] at H;have c3b0 : (a0_1 == a1_1) = true := beq_iff_eq.mpr c3;have c3b1 : (a0_1 != a1_1) = false := bne_eq_false_iff_eq.mpr c3;clear c3;obtain rfl := Option.some.inj H
  go_enter Try.func23, Try.ntmps23
  go_wp2_with (first | ((with_reducible refine gate_dst (N := 2) rfl ?_); refine be 2 #[.string a0_0, .int .u64 a0_1, .int .u64 a0_2, .int .u64 a0_3] 60 ?_; intro gb310 hg w4 hbox hb; have BK310 := am (hbox); have GW310 := am ((pg hg HB : w.heap.size ≤ gb310)); have GE310 := am ((pg hg HB : w.heap.size ≤ gb310)); replace HB := am (below_step (pb HB) hb); clear hb hbox hg) | ((with_reducible refine gate_dst (N := 3) rfl ?_); refine be 3 #[.string a1_0, .int .u64 a1_1, .int .u64 a1_2, .int .u64 a1_3] 60 ?_; intro gb311 hg w5 hbox hb; have BK311 := am (hbox); have GW311 := am ((pg hg HB : w.heap.size ≤ gb311)); have GE311 := am ((pg hg HB : w.heap.size ≤ gb311)); replace HB := am (below_step (pb HB) hb); obtain ⟨NB310_311, NB311_310, hnb6, hnc6⟩ := pm hg BK310; replace BK310 := am (blk_below (pk BK310.out) hb); clear hb hbox hg; obtain ⟨hcz7_0, hcz7_1, hcz7_2, hcz7_3, hfz7_0, hfz7_1, hfz7_2, hfz7_3⟩ := g4 BK310; obtain ⟨hcz8_0, hcz8_1, hcz8_2, hcz8_3, hfz8_0, hfz8_1, hfz8_2, hfz8_3⟩ := g4 BK311))
  go_ret
  exact ⟨by first | rfl | (simp [errW_none, errW_some] <;> rfl) | (simp [*, errW_none, errW_some] <;> rfl), pb HB⟩
 rw [if_neg c3] at H;have c3b0 : (a0_1 == a1_1) = false := beq_eq_false_iff_ne.mpr c3;have c3b1 : (a0_1 != a1_1) = true := bne_iff_ne.mpr c3;obtain rfl := Option.some.inj H
 go_enter Try.func23, Try.ntmps23
 go_wp2_with (first | ((with_reducible refine gate_dst (N := 2) rfl ?_); refine be 2 #[.string a0_0, .int .u64 a0_1, .int .u64 a0_2, .int .u64 a0_3] 60 ?_; intro gb310 hg w9 hbox hb; have BK310 := am (hbox); have GW310 := am ((pg hg HB : w.heap.size ≤ gb310)); have GE310 := am ((pg hg HB : w.heap.size ≤ gb310)); replace HB := am (below_step (pb HB) hb); clear hb hbox hg) | ((with_reducible refine gate_dst (N := 3) rfl ?_); refine be 3 #[.string a1_0, .int .u64 a1_1, .int .u64 a1_2, .int .u64 a1_3] 60 ?_; intro gb311 hg w10 hbox hb; have BK311 := am (hbox); have GW311 := am ((pg hg HB : w.heap.size ≤ gb311)); have GE311 := am ((pg hg HB : w.heap.size ≤ gb311)); replace HB := am (below_step (pb HB) hb); obtain ⟨NB310_311, NB311_310, hnb11, hnc11⟩ := pm hg BK310; replace BK310 := am (blk_below (pk BK310.out) hb); clear hb hbox hg; obtain ⟨hcz12_0, hcz12_1, hcz12_2, hcz12_3, hfz12_0, hfz12_1, hfz12_2, hfz12_3⟩ := g4 BK310; obtain ⟨hcz13_0, hcz13_1, hcz13_2, hcz13_3, hfz13_0, hfz13_1, hfz13_2, hfz13_3⟩ := g4 BK311))
 go_ret
 exact ⟨by first | rfl | (simp [errW_none, errW_some] <;> rfl) | (simp [*, errW_none, errW_some] <;> rfl), pb HB⟩
end Go.Proofs.Ytmfffbafldbihaa.H
