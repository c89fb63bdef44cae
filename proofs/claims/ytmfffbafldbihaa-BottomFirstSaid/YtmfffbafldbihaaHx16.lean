import Derived.Test.YtmfffbafldbihaaHx0
import Derived.Test.YtmfffbafldbihaaHx15
namespace Go.Proofs.Ytmfffbafldbihaa.H
open Go.RowKit Go.Proofs.YtmfffbafldbihaaW.PrintWords Go.Proofs.YtmfffbafldbihaaW.PrintLast Go.Proofs.YtmfffbafldbihaaW.PrintMore Go.Proofs.YtmfffbafldbihaaW.Sq
attribute [local go_sem] max2_int min2_int max_two min_two max_three min_three max_four min_four
set_option linter.unusedVariables false
set_option linter.unusedSimpArgs false

mutual
def r05_Sum.l0 : Nat → ByteArray → Int → Int → Int → Int → Int → Option (Int)
 | 0, _, _, _, _, _, _ => none
 | k + 1, x1, x6, x295000, x295001, x295002, x295003 => if x6 ≤ (x1.size : Int) then (r05_Sum.l1 k x1 x6 0 0 x295000 x295001 x295002 x295003) else ((r05_turns.f k x295000 x295001 (Go.bits .xor .u64 x295002 255) x295003 4).bind fun bt295 => (some (Go.bits .xor .u64 (Go.bits .xor .u64 (Go.bits .xor .u64 bt295.1 bt295.2.1) bt295.2.2.1) bt295.2.2.2)))
def r05_Sum.l1 : Nat → ByteArray → Int → Int → Int → Int → Int → Int → Int → Option (Int)
 | 0, _, _, _, _, _, _, _, _ => none
 | k + 1, x1, x6, x7, x8, x295000, x295001, x295002, x295003 => if x8 < 8 then (if (wrap64 (x6 + x8)) < (x1.size : Int) then (if 0 ≤ (wrap64 (x6 + x8)) then (if x8 = 7 then (if (wrap64 (x6 + 8)) > (x1.size : Int) then (if 0 ≤ (IntKind.u64.wrap (wrap64 (8 * x8))) then (r05_Sum.l1 k x1 x6 (Go.bits .or .u64 x7 (shl .u64 ((x1.size : Int) % 256) (IntKind.u64.wrap (wrap64 (8 * x8))))) (wrap64 (x8 + 1)) x295000 x295001 x295002 x295003) else (none)) else (if 0 ≤ (IntKind.u64.wrap (wrap64 (8 * x8))) then (r05_Sum.l1 k x1 x6 (Go.bits .or .u64 x7 (shl .u64 (IntKind.u64.wrap (bt x1 (wrap64 (x6 + x8)))) (IntKind.u64.wrap (wrap64 (8 * x8))))) (wrap64 (x8 + 1)) x295000 x295001 x295002 x295003) else (none))) else (if 0 ≤ (IntKind.u64.wrap (wrap64 (8 * x8))) then (r05_Sum.l1 k x1 x6 (Go.bits .or .u64 x7 (shl .u64 (IntKind.u64.wrap (bt x1 (wrap64 (x6 + x8)))) (IntKind.u64.wrap (wrap64 (8 * x8))))) (wrap64 (x8 + 1)) x295000 x295001 x295002 x295003) else (none))) else (none)) else (if x8 = 7 then (if (wrap64 (x6 + 8)) > (x1.size : Int) then (if 0 ≤ (IntKind.u64.wrap (wrap64 (8 * x8))) then (r05_Sum.l1 k x1 x6 (Go.bits .or .u64 x7 (shl .u64 ((x1.size : Int) % 256) (IntKind.u64.wrap (wrap64 (8 * x8))))) (wrap64 (x8 + 1)) x295000 x295001 x295002 x295003) else (none)) else (if 0 ≤ (IntKind.u64.wrap (wrap64 (8 * x8))) then (r05_Sum.l1 k x1 x6 (Go.bits .or .u64 x7 (shl .u64 0 (IntKind.u64.wrap (wrap64 (8 * x8))))) (wrap64 (x8 + 1)) x295000 x295001 x295002 x295003) else (none))) else (if 0 ≤ (IntKind.u64.wrap (wrap64 (8 * x8))) then (r05_Sum.l1 k x1 x6 (Go.bits .or .u64 x7 (shl .u64 0 (IntKind.u64.wrap (wrap64 (8 * x8))))) (wrap64 (x8 + 1)) x295000 x295001 x295002 x295003) else (none)))) else ((r05_turns.f k x295000 x295001 x295002 (Go.bits .xor .u64 x295003 x7) 2).bind fun bt299 => (r05_Sum.l0 k x1 (wrap64 (x6 + 8)) (Go.bits .xor .u64 bt299.1 x7) bt299.2.1 bt299.2.2.1 bt299.2.2.2))
end
def r05_Sum.f (k : Nat) (a0_0 : Int) (a0_1 : Int) (a1 : ByteArray) : Option (Int) := r05_Sum.l0 k a1 0 (Go.bits .xor .u64 a0_0 8317987319222330741) (Go.bits .xor .u64 a0_1 7237128888997146477) (Go.bits .xor .u64 a0_0 7816392313619706465) (Go.bits .xor .u64 a0_1 8387220255154660723)
theorem r05_Sum.mono_l : ∀ k, (∀ y0 y1 y2 y3 y4 y5, LeO (r05_Sum.l0 k y0 y1 y2 y3 y4 y5) (r05_Sum.l0 (k + 1) y0 y1 y2 y3 y4 y5)) ∧ (∀ y0 y1 y2 y3 y4 y5 y6 y7, LeO (r05_Sum.l1 k y0 y1 y2 y3 y4 y5 y6 y7) (r05_Sum.l1 (k + 1) y0 y1 y2 y3 y4 y5 y6 y7))
 | 0 => ⟨fun _ _ _ _ _ _ r h => by simp [r05_Sum.l0] at h, fun _ _ _ _ _ _ _ _ r h => by simp [r05_Sum.l1] at h⟩
 | k + 1 => by
  obtain ⟨ih0, ih1⟩ := r05_Sum.mono_l k
  refine ⟨?_, ?_⟩
  ·intro y0 y1 y2 y3 y4 y5
   unfold r05_Sum.l0
   repeat' first
   | (with_reducible exact ih0 _ _ _ _ _ _)
   | (with_reducible exact ih1 _ _ _ _ _ _ _ _)
   | (with_reducible exact r05_turns.mono _ _ _ _ _ _)
   | (with_reducible exact LeO.refl _)
   | (with_reducible exact LeO.none _)
   | (with_reducible refine LeO.ite ?_ ?_)
   | (with_reducible refine LeO.bind ?_ (fun _ => ?_))
  ·intro y0 y1 y2 y3 y4 y5 y6 y7
   unfold r05_Sum.l1
   repeat' first
   | (with_reducible exact ih0 _ _ _ _ _ _)
   | (with_reducible exact ih1 _ _ _ _ _ _ _ _)
   | (with_reducible exact r05_turns.mono _ _ _ _ _ _)
   | (with_reducible exact LeO.refl _)
   | (with_reducible exact LeO.none _)
   | (with_reducible refine LeO.ite ?_ ?_)
   | (with_reducible refine LeO.bind ?_ (fun _ => ?_))
theorem r05_Sum.mono : ∀ a0 a1 a2 k, LeO (r05_Sum.f k a0 a1 a2) (r05_Sum.f (k + 1) a0 a1 a2) := by
 intro a0 a1 a2 k
 obtain ⟨ih0, ih1⟩ := r05_Sum.mono_l k
 unfold r05_Sum.f
 repeat' first
   | (with_reducible exact ih0 _ _ _ _ _ _)
   | (with_reducible exact ih1 _ _ _ _ _ _ _ _)
   | (with_reducible exact r05_turns.mono _ _ _ _ _ _)
   | (with_reducible exact LeO.refl _)
   | (with_reducible exact LeO.none _)
   | (with_reducible refine LeO.ite ?_ ?_)
   | (with_reducible refine LeO.bind ?_ (fun _ => ?_))
set_option maxHeartbeats 8000000 in
set_option maxRecDepth 100000 in
theorem r05_Sum.calls (k : Nat) (ao : Int) (ap : Int) (a1 : ByteArray) (r : Int) (w : World) (h : r05_Sum.f k ao ap a1 = some r) :
  Calls Try.prog 22 #[.agg #[.int .u64 ao, .int .u64 ap], .string a1] w fun e w' => e = .returned (.int .u64 r) ∧ Below w.heap.size w w' := by
 have hu24 := Try.underlying24;have hu75 := Try.underlying75;have HB := am (Below.refl w.heap.size w);have H : (r05_Sum.l0 k a1 0 (Go.bits .xor .u64 ao 8317987319222330741) (Go.bits .xor .u64 ap 7237128888997146477) (Go.bits .xor .u64 ao 7816392313619706465) (Go.bits .xor .u64 ap 8387220255154660723)) = some r := h;clear h;have H' := am H;clear H
 go_enter Try.func22, Try.ntmps22
 go_wp2_with (first | ((with_reducible refine gate_dst (N := 2) rfl ?_); (try (refine gate_guard (by rfl) ?_; dsimp only)); refine be 2 #[.int .u64 ao, .int .u64 ap] 24 ?_; intro aC hg w3 hbox hb; have ak := am (hbox); have b3 := gq hg HB; have b4 := gq hg HB; replace HB := lb HB hb; clear hb hbox hg; obtain ⟨aQ, aR, aS, aT⟩ := g2 ak) | ((with_reducible refine gate_dst (N := 5) rfl ?_); (try (refine gate_guard (by rfl) ?_; dsimp only)); refine be 5 #[.int .u64 0, .int .u64 0, .int .u64 0, .int .u64 0] 75 ?_; intro aD hg w5 hbox hb; have aj := am (hbox); have b5 := gq hg HB; have b6 := gq hg HB; replace HB := lb HB hb; obtain ⟨ai, az, cp, cq⟩ := pm hg ak; replace ak := kb ak hb; clear hb hbox hg; obtain ⟨aU, aV, aW, aX, aY, aZ, a0, a2⟩ := g4 aj))
 go_loopg [6] k (fun kq v6 w' => ∃ (ag : Int) (ae : Int) (ad : Int) (ac : Int) (aa : Int), v6 = .int .i64 ag ∧ Aside0 (r05_Sum.l0 kq a1 ag ae ad ac aa = some r) ∧ Aside0 (kq ≤ k) ∧ Aside0 (w'.heap[aC]? = some (.cells #[.int .u64 ao, .int .u64 ap] 24 (0, 0))) ∧ Aside0 (w'.heap[aD]? = some (.cells #[.int .u64 ae, .int .u64 ad, .int .u64 ac, .int .u64 aa] 75 (0, 0))) ∧ Aside0 (Below w.heap.size w w'))
 case atStart => exact ⟨(0), (Go.bits .xor .u64 ao 8317987319222330741), (Go.bits .xor .u64 ap 7237128888997146477), (Go.bits .xor .u64 ao 7816392313619706465), (Go.bits .xor .u64 ap 8387220255154660723), (by first | rfl | (simp; done) | (simp [*]; done)), H', ⟨Nat.le_refl _⟩, ⟨by refine pk ?_; refine blk_far ?_ ai.out _; refine pk ?_; refine blk_far ?_ ai.out _; refine pk ?_; refine blk_far ?_ ai.out _; refine pk ?_; refine blk_far ?_ ai.out _; refine pk ?_; exact ak.out⟩, ⟨by refine pk ?_; refine blk_put (cs := #[.int .u64 (Go.bits .xor .u64 ao 8317987319222330741), .int .u64 (Go.bits .xor .u64 ap 7237128888997146477), .int .u64 (Go.bits .xor .u64 ao 7816392313619706465), .int .u64 0]) ?_ 3 _ rfl; refine pk ?_; refine blk_put (cs := #[.int .u64 (Go.bits .xor .u64 ao 8317987319222330741), .int .u64 (Go.bits .xor .u64 ap 7237128888997146477), .int .u64 0, .int .u64 0]) ?_ 2 _ rfl; refine pk ?_; refine blk_put (cs := #[.int .u64 (Go.bits .xor .u64 ao 8317987319222330741), .int .u64 0, .int .u64 0, .int .u64 0]) ?_ 1 _ rfl; refine pk ?_; refine blk_put (cs := #[.int .u64 0, .int .u64 0, .int .u64 0, .int .u64 0]) ?_ 0 _ rfl; refine pk ?_; exact aj.out⟩, ⟨pb HB⟩⟩
 case round =>
  clear H';(try clear c2);(try clear p2);(try clear c6);(try clear aQ aR);(try clear aU aV aW aX);(try clear aS aT);(try clear aY aZ a0 a2);obtain ⟨ag, ae, ad, ac, aa, rfl, HA, HK1, ak, aj, HB⟩ := hrel
  cases gk with
  | zero => exact absurd HA.out (by simp [r05_Sum.l0])
  | succ k1 =>
   have H := HA.out;clear HA
   simp only [r05_Sum.l0] at H
   by_cases c8 : ag ≤ (a1.size : Int)
   ·rw [if_pos c8] at H;have bb : decide (ag ≤ (a1.size : Int)) = true := decide_eq_true c8;clear c8;have H' := am H;clear H
    go_wp2
    go_loopg [7, 8] k1 (fun kq v7 v8 w' => ∃ (ah : Int) (af : Int), v7 = .int .u64 ah ∧ v8 = .int .i64 af ∧ Aside0 (r05_Sum.l1 kq a1 ag ah af ae ad ac aa = some r) ∧ Aside0 (kq ≤ k1) ∧ Aside0 (w'.heap[aC]? = some (.cells #[.int .u64 ao, .int .u64 ap] 24 (0, 0))) ∧ Aside0 (w'.heap[aD]? = some (.cells #[.int .u64 ae, .int .u64 ad, .int .u64 ac, .int .u64 aa] 75 (0, 0))) ∧ Aside0 (Below w.heap.size w w'))
    case atStart => exact ⟨(0), (0), (by first | rfl | (simp; done) | (simp [*]; done)), (by first | rfl | (simp; done) | (simp [*]; done)), H', ⟨Nat.le_refl _⟩, ⟨pk ak.out⟩, ⟨pk aj.out⟩, ⟨pb HB⟩⟩
    case round =>
     clear H';(try clear c2);(try clear p2);(try clear c6);(try clear c8);(try clear bb);(try clear aQ aR);(try clear aU aV aW aX);(try clear aS aT);(try clear aY aZ a0 a2);(try clear p2);obtain ⟨ah, af, rfl, rfl, HA, HK2, ak, aj, HB⟩ := hrel
     cases gk with
     | zero => exact absurd HA.out (by simp [r05_Sum.l1])
     | succ k2 =>
      have H := HA.out;clear HA
      simp only [r05_Sum.l1] at H
      by_cases c9 : af < 8
      ·rw [if_pos c9] at H;have bn : decide (af < 8) = true := decide_eq_true c9;clear c9
       by_cases c10 : (wrap64 (ag + af)) < (a1.size : Int)
       ·rw [if_pos c10] at H;have a_ : decide ((wrap64 (ag + af)) < (a1.size : Int)) = true := decide_eq_true c10;clear c10;obtain ⟨an, hji11⟩ : ∃ j_ : Int, (wrap64 (ag + af)) = j_ := ⟨_, rfl⟩
        replace H : (if 0 ≤ (an) then (if af = 7 then (if (wrap64 (ag + 8)) > (a1.size : Int) then (if 0 ≤ (IntKind.u64.wrap (wrap64 (8 * af))) then (r05_Sum.l1 k2 a1 ag (Go.bits .or .u64 ah (shl .u64 ((a1.size : Int) % 256) (IntKind.u64.wrap (wrap64 (8 * af))))) (wrap64 (af + 1)) ae ad ac aa) else (none)) else (if 0 ≤ (IntKind.u64.wrap (wrap64 (8 * af))) then (r05_Sum.l1 k2 a1 ag (Go.bits .or .u64 ah (shl .u64 (IntKind.u64.wrap (bt a1 (an))) (IntKind.u64.wrap (wrap64 (8 * af))))) (wrap64 (af + 1)) ae ad ac aa) else (none))) else (if 0 ≤ (IntKind.u64.wrap (wrap64 (8 * af))) then (r05_Sum.l1 k2 a1 ag (Go.bits .or .u64 ah (shl .u64 (IntKind.u64.wrap (bt a1 (an))) (IntKind.u64.wrap (wrap64 (8 * af))))) (wrap64 (af + 1)) ae ad ac aa) else (none))) else (none)) = some r := by first | (rw [hji11] at H; exact H) | (simp only [hji11] at H ⊢; exact H)
        (try rw [hji11] at a_)
        have hji11w : (IntKind.i64.wrap (ag + af)) = an := (i64_w _).trans hji11
        by_cases ba : 0 ≤ (an)
        ·rw [if_pos ba] at H;have b7 : decide (0 ≤ (an)) = true := decide_eq_true ba;clear ba
         by_cases aE : af = 7
         ·rw [if_pos aE] at H;have bh : (af == 7) = true := beq_iff_eq.mpr aE;have bi : (af != 7) = false := bne_eq_false_iff_eq.mpr aE;clear aE
          by_cases aH : (wrap64 (ag + 8)) > (a1.size : Int)
          ·rw [if_pos aH] at H;have bj : decide ((a1.size : Int) < (wrap64 (ag + 8))) = true := decide_eq_true aH;clear aH;obtain ⟨aq, hji16⟩ : ∃ j_ : Int, (IntKind.u64.wrap (wrap64 (8 * af))) = j_ := ⟨_, rfl⟩
           replace H : (if 0 ≤ (aq) then (r05_Sum.l1 k2 a1 ag (Go.bits .or .u64 ah (shl .u64 ((a1.size : Int) % 256) (aq))) (wrap64 (af + 1)) ae ad ac aa) else (none)) = some r := by first | (rw [hji16] at H; exact H) | (simp only [hji16] at H ⊢; exact H)
           by_cases a3 : 0 ≤ (aq)
           ·rw [if_pos a3] at H;have b8 := eq_true a3;have b9 : decide (0 ≤ (aq)) = true := decide_eq_true a3;clear a3;obtain ⟨aJ, hji18⟩ : ∃ j_ : Int, (shl .u64 ((a1.size : Int) % 256) (aq)) = j_ := ⟨_, rfl⟩
            replace H : (r05_Sum.l1 k2 a1 ag (Go.bits .or .u64 ah (aJ)) (wrap64 (af + 1)) ae ad ac aa) = some r := by first | (rw [hji18] at H; exact H) | (simp only [hji18] at H ⊢; exact H)
            have hji18_ : (IntKind.u64.wrap (((a1.size : Int) % 256) * 2 ^ min (aq).toNat 64)) = aJ := hji18;have hji18z : (aq) ≤ 64 → (IntKind.u64.wrap (((a1.size : Int) % 256) * 2 ^ (aq).toNat)) = aJ := shl_small hji18;have H' := am H;clear H;have aA : 0 ≤ ((an) : Int) := of_decide_eq_true (by first | (with_reducible assumption) | assumption);have aB : (an) < (a1.size : Int) := of_decide_eq_true (by first | (with_reducible assumption) | assumption);have bc := bt_at a1 (an);replace aA := eq_true aA;replace aB := eq_true aB
            go_wp2
            go_roundg k2
            case measure => have := HK1.out; have := HK2.out; omega
            case rel => exact ⟨(Go.bits .or .u64 ah (aJ)), (wrap64 (af + 1)), (by first | rfl | (simp; done) | (simp only [← hji18] <;> (first | rfl | (simp; done) | (simp [show ∀ j_ : Int, shl .u64 0 j_ = 0 from fun j_ => by unfold shl; rw [Int.zero_mul]; decide]; done))) | (simp [*]; done)), (by first | rfl | (simp; done) | (simp [*]; done)), H', ⟨by have := HK1.out; have := HK2.out; omega⟩, ⟨pk ak.out⟩, ⟨pk aj.out⟩, ⟨pb HB⟩⟩
           ·rw [if_neg a3] at H;exact absurd H (by simp)
          ·rw [if_neg aH] at H;have bj : decide ((a1.size : Int) < (wrap64 (ag + 8))) = false := decide_eq_false aH;clear aH;obtain ⟨ar, hji19⟩ : ∃ j_ : Int, (IntKind.u64.wrap (wrap64 (8 * af))) = j_ := ⟨_, rfl⟩
           replace H : (if 0 ≤ (ar) then (r05_Sum.l1 k2 a1 ag (Go.bits .or .u64 ah (shl .u64 (IntKind.u64.wrap (bt a1 (an))) (ar))) (wrap64 (af + 1)) ae ad ac aa) else (none)) = some r := by first | (rw [hji19] at H; exact H) | (simp only [hji19] at H ⊢; exact H)
           by_cases a4 : 0 ≤ (ar)
           ·rw [if_pos a4] at H;have b_ := eq_true a4;have ca : decide (0 ≤ (ar)) = true := decide_eq_true a4;clear a4;obtain ⟨aK, hji21⟩ : ∃ j_ : Int, (shl .u64 (IntKind.u64.wrap (bt a1 (an))) (ar)) = j_ := ⟨_, rfl⟩
            replace H : (r05_Sum.l1 k2 a1 ag (Go.bits .or .u64 ah (aK)) (wrap64 (af + 1)) ae ad ac aa) = some r := by first | (rw [hji21] at H; exact H) | (simp only [hji21] at H ⊢; exact H)
            have hji21_ : (IntKind.u64.wrap ((IntKind.u64.wrap (bt a1 (an))) * 2 ^ min (ar).toNat 64)) = aK := hji21;have hji21z : (ar) ≤ 64 → (IntKind.u64.wrap ((IntKind.u64.wrap (bt a1 (an))) * 2 ^ (ar).toNat)) = aK := shl_small hji21;have H' := am H;clear H;have aA : 0 ≤ ((an) : Int) := of_decide_eq_true (by first | (with_reducible assumption) | assumption);have aB : (an) < (a1.size : Int) := of_decide_eq_true (by first | (with_reducible assumption) | assumption);have bc := bt_at a1 (an);replace aA := eq_true aA;replace aB := eq_true aB
            go_wp2
            go_roundg k2
            case measure => have := HK1.out; have := HK2.out; omega
            case rel => exact ⟨(Go.bits .or .u64 ah (aK)), (wrap64 (af + 1)), (by first | rfl | (simp; done) | (simp only [← hji21] <;> (first | rfl | (simp; done) | (simp [show ∀ j_ : Int, shl .u64 0 j_ = 0 from fun j_ => by unfold shl; rw [Int.zero_mul]; decide]; done))) | (simp [*]; done)), (by first | rfl | (simp; done) | (simp [*]; done)), H', ⟨by have := HK1.out; have := HK2.out; omega⟩, ⟨pk ak.out⟩, ⟨pk aj.out⟩, ⟨pb HB⟩⟩
           ·rw [if_neg a4] at H;exact absurd H (by simp)
         ·rw [if_neg aE] at H;have bh : (af == 7) = false := beq_eq_false_iff_ne.mpr aE;have bi : (af != 7) = true := bne_iff_ne.mpr aE;obtain ⟨au, hji22⟩ : ∃ j_ : Int, (IntKind.u64.wrap (wrap64 (8 * af))) = j_ := ⟨_, rfl⟩
          replace H : (if 0 ≤ (au) then (r05_Sum.l1 k2 a1 ag (Go.bits .or .u64 ah (shl .u64 (IntKind.u64.wrap (bt a1 (an))) (au))) (wrap64 (af + 1)) ae ad ac aa) else (none)) = some r := by first | (rw [hji22] at H; exact H) | (simp only [hji22] at H ⊢; exact H)
          by_cases a5 : 0 ≤ (au)
          ·rw [if_pos a5] at H;have cb := eq_true a5;have cc : decide (0 ≤ (au)) = true := decide_eq_true a5;clear a5;obtain ⟨aL, hji24⟩ : ∃ j_ : Int, (shl .u64 (IntKind.u64.wrap (bt a1 (an))) (au)) = j_ := ⟨_, rfl⟩
           replace H : (r05_Sum.l1 k2 a1 ag (Go.bits .or .u64 ah (aL)) (wrap64 (af + 1)) ae ad ac aa) = some r := by first | (rw [hji24] at H; exact H) | (simp only [hji24] at H ⊢; exact H)
           have hji24_ : (IntKind.u64.wrap ((IntKind.u64.wrap (bt a1 (an))) * 2 ^ min (au).toNat 64)) = aL := hji24;have hji24z : (au) ≤ 64 → (IntKind.u64.wrap ((IntKind.u64.wrap (bt a1 (an))) * 2 ^ (au).toNat)) = aL := shl_small hji24;have H' := am H;clear H;have aA : 0 ≤ ((an) : Int) := of_decide_eq_true (by first | (with_reducible assumption) | assumption);have aB : (an) < (a1.size : Int) := of_decide_eq_true (by first | (with_reducible assumption) | assumption);have bc := bt_at a1 (an);replace aA := eq_true aA;replace aB := eq_true aB
           go_wp2
           go_roundg k2
           case measure => have := HK1.out; have := HK2.out; omega
           case rel => exact ⟨(Go.bits .or .u64 ah (aL)), (wrap64 (af + 1)), (by first | rfl | (simp; done) | (simp only [← hji24] <;> (first | rfl | (simp; done) | (simp [show ∀ j_ : Int, shl .u64 0 j_ = 0 from fun j_ => by unfold shl; rw [Int.zero_mul]; decide]; done))) | (simp [*]; done)), (by first | rfl | (simp; done) | (simp [*]; done)), H', ⟨by have := HK1.out; have := HK2.out; omega⟩, ⟨pk ak.out⟩, ⟨pk aj.out⟩, ⟨pb HB⟩⟩
          ·rw [if_neg a5] at H;exact absurd H (by simp)
        ·rw [if_neg ba] at H;exact absurd H (by simp)
       ·rw [if_neg c10] at H;have a_ : decide ((wrap64 (ag + af)) < (a1.size : Int)) = false := decide_eq_false c10;clear c10
        by_cases aF : af = 7
        ·rw [if_pos aF] at H;have bk : (af == 7) = true := beq_iff_eq.mpr aF;have bl : (af != 7) = false := bne_eq_false_iff_eq.mpr aF;clear aF
         by_cases aI : (wrap64 (ag + 8)) > (a1.size : Int)
         ·rw [if_pos aI] at H;have bm : decide ((a1.size : Int) < (wrap64 (ag + 8))) = true := decide_eq_true aI;clear aI;obtain ⟨av, hji27⟩ : ∃ j_ : Int, (IntKind.u64.wrap (wrap64 (8 * af))) = j_ := ⟨_, rfl⟩
          replace H : (if 0 ≤ (av) then (r05_Sum.l1 k2 a1 ag (Go.bits .or .u64 ah (shl .u64 ((a1.size : Int) % 256) (av))) (wrap64 (af + 1)) ae ad ac aa) else (none)) = some r := by first | (rw [hji27] at H; exact H) | (simp only [hji27] at H ⊢; exact H)
          by_cases a6 : 0 ≤ (av)
          ·rw [if_pos a6] at H;have cd := eq_true a6;have cf : decide (0 ≤ (av)) = true := decide_eq_true a6;clear a6;obtain ⟨aM, hji29⟩ : ∃ j_ : Int, (shl .u64 ((a1.size : Int) % 256) (av)) = j_ := ⟨_, rfl⟩
           replace H : (r05_Sum.l1 k2 a1 ag (Go.bits .or .u64 ah (aM)) (wrap64 (af + 1)) ae ad ac aa) = some r := by first | (rw [hji29] at H; exact H) | (simp only [hji29] at H ⊢; exact H)
           have hji29_ : (IntKind.u64.wrap (((a1.size : Int) % 256) * 2 ^ min (av).toNat 64)) = aM := hji29;have hji29z : (av) ≤ 64 → (IntKind.u64.wrap (((a1.size : Int) % 256) * 2 ^ (av).toNat)) = aM := shl_small hji29;have H' := am H;clear H
           go_wp2
           go_roundg k2
           case measure => have := HK1.out; have := HK2.out; omega
           case rel => exact ⟨(Go.bits .or .u64 ah (aM)), (wrap64 (af + 1)), (by first | rfl | (simp; done) | (simp only [← hji29] <;> (first | rfl | (simp; done) | (simp [show ∀ j_ : Int, shl .u64 0 j_ = 0 from fun j_ => by unfold shl; rw [Int.zero_mul]; decide]; done))) | (simp [*]; done)), (by first | rfl | (simp; done) | (simp [*]; done)), H', ⟨by have := HK1.out; have := HK2.out; omega⟩, ⟨pk ak.out⟩, ⟨pk aj.out⟩, ⟨pb HB⟩⟩
          ·rw [if_neg a6] at H;exact absurd H (by simp)
         ·rw [if_neg aI] at H;have bm : decide ((a1.size : Int) < (wrap64 (ag + 8))) = false := decide_eq_false aI;clear aI;obtain ⟨aw, hji30⟩ : ∃ j_ : Int, (IntKind.u64.wrap (wrap64 (8 * af))) = j_ := ⟨_, rfl⟩
          replace H : (if 0 ≤ (aw) then (r05_Sum.l1 k2 a1 ag (Go.bits .or .u64 ah (shl .u64 0 (aw))) (wrap64 (af + 1)) ae ad ac aa) else (none)) = some r := by first | (rw [hji30] at H; exact H) | (simp only [hji30] at H ⊢; exact H)
          by_cases a7 : 0 ≤ (aw)
          ·rw [if_pos a7] at H;have cg := eq_true a7;have ch : decide (0 ≤ (aw)) = true := decide_eq_true a7;clear a7;obtain ⟨aN, hji32⟩ : ∃ j_ : Int, (shl .u64 0 (aw)) = j_ := ⟨_, rfl⟩
           replace H : (r05_Sum.l1 k2 a1 ag (Go.bits .or .u64 ah (aN)) (wrap64 (af + 1)) ae ad ac aa) = some r := by first | (rw [hji32] at H; exact H) | (simp only [hji32] at H ⊢; exact H)
           have hji32_ : (IntKind.u64.wrap (0 * 2 ^ min (aw).toNat 64)) = aN := hji32;have hji32z : (aw) ≤ 64 → (IntKind.u64.wrap (0 * 2 ^ (aw).toNat)) = aN := shl_small hji32;have H' := am H;clear H
           go_wp2
           go_roundg k2
           case measure => have := HK1.out; have := HK2.out; omega
           case rel => exact ⟨(Go.bits .or .u64 ah (aN)), (wrap64 (af + 1)), (by first | rfl | (simp; done) | (simp only [← hji32] <;> (first | rfl | (simp; done) | (simp [show ∀ j_ : Int, shl .u64 0 j_ = 0 from fun j_ => by unfold shl; rw [Int.zero_mul]; decide]; done))) | (simp [*]; done)), (by first | rfl | (simp; done) | (simp [*]; done)), H', ⟨by have := HK1.out; have := HK2.out; omega⟩, ⟨pk ak.out⟩, ⟨pk aj.out⟩, ⟨pb HB⟩⟩
          ·rw [if_neg a7] at H;exact absurd H (by simp)
        ·rw [if_neg aF] at H;have bk : (af == 7) = false := beq_eq_false_iff_ne.mpr aF;have bl : (af != 7) = true := bne_iff_ne.mpr aF;obtain ⟨ax, hji33⟩ : ∃ j_ : Int, (IntKind.u64.wrap (wrap64 (8 * af))) = j_ := ⟨_, rfl⟩
         replace H : (if 0 ≤ (ax) then (r05_Sum.l1 k2 a1 ag (Go.bits .or .u64 ah (shl .u64 0 (ax))) (wrap64 (af + 1)) ae ad ac aa) else (none)) = some r := by first | (rw [hji33] at H; exact H) | (simp only [hji33] at H ⊢; exact H)
         by_cases a8 : 0 ≤ (ax)
         ·rw [if_pos a8] at H;have ci := eq_true a8;have cj : decide (0 ≤ (ax)) = true := decide_eq_true a8;clear a8;obtain ⟨aO, hji35⟩ : ∃ j_ : Int, (shl .u64 0 (ax)) = j_ := ⟨_, rfl⟩
          replace H : (r05_Sum.l1 k2 a1 ag (Go.bits .or .u64 ah (aO)) (wrap64 (af + 1)) ae ad ac aa) = some r := by first | (rw [hji35] at H; exact H) | (simp only [hji35] at H ⊢; exact H)
          have hji35_ : (IntKind.u64.wrap (0 * 2 ^ min (ax).toNat 64)) = aO := hji35;have hji35z : (ax) ≤ 64 → (IntKind.u64.wrap (0 * 2 ^ (ax).toNat)) = aO := shl_small hji35;have H' := am H;clear H
          go_wp2
          go_roundg k2
          case measure => have := HK1.out; have := HK2.out; omega
          case rel => exact ⟨(Go.bits .or .u64 ah (aO)), (wrap64 (af + 1)), (by first | rfl | (simp; done) | (simp only [← hji35] <;> (first | rfl | (simp; done) | (simp [show ∀ j_ : Int, shl .u64 0 j_ = 0 from fun j_ => by unfold shl; rw [Int.zero_mul]; decide]; done))) | (simp [*]; done)), (by first | rfl | (simp; done) | (simp [*]; done)), H', ⟨by have := HK1.out; have := HK2.out; omega⟩, ⟨pk ak.out⟩, ⟨pk aj.out⟩, ⟨pb HB⟩⟩
         ·rw [if_neg a8] at H;exact absurd H (by simp)
      ·rw [if_neg c9] at H;have bn : decide (af < 8) = false := decide_eq_false c9;clear c9;replace H := Option.bind_eq_some_iff.mp H;obtain ⟨⟨ay, aG, aP, a9⟩, bd, H⟩ := H
       try dsimp only at H
       have b1 := am bd;clear bd;have H' := am H;clear H;have ck := az.out;have cl := ai.out;obtain ⟨bs, bu, bv, bw, bz, bA, bB, bC⟩ := g4 aj
       go_wp2_with (first | ((with_reducible refine gate_callee (f := 34) rfl ?_); refine gl (some 71) Try.func34 #[.agg #[.int .u64 ae, .int .u64 ad, .int .u64 ac, .int .u64 (Go.bits .xor .u64 aa ah)], .int .i64 2] ?_; (with_reducible refine (r05_turns.calls k2 ae ad ac (Go.bits .xor .u64 aa ah) 2 ay aG aP a9 _ b1.out).mono ?_); rintro e cr ⟨rfl, hb⟩; refine ⟨_, rfl, ?_⟩; replace ak := am (blk_below (g := aC) (o := .cells #[.int .u64 ao, .int .u64 ap] 24 (0, 0)) (by refine pk ?_; refine blk_far ?_ ai.out _; refine pk ?_; exact ak.out) hb); replace aj := am (blk_below (g := aD) (o := .cells #[.int .u64 ae, .int .u64 ad, .int .u64 ac, .int .u64 (Go.bits .xor .u64 aa ah)] 75 (0, 0)) (by refine pk ?_; refine blk_put (cs := #[.int .u64 ae, .int .u64 ad, .int .u64 ac, .int .u64 aa]) ?_ 3 _ rfl; refine pk ?_; exact aj.out) hb); replace HB := lb HB hb; (try clear hb); (try clear hb2); (try clear hk); (try clear hi); obtain ⟨bD, bE, bF, bG, bH, bI, bJ, bK⟩ := g4 aj))
       go_roundg k2
       case measure => have := HK1.out; have := HK2.out; omega
       case rel => exact ⟨(wrap64 (ag + 8)), (Go.bits .xor .u64 ay ah), (aG), (aP), (a9), (by first | rfl | (simp; done) | (simp [*]; done)), H', ⟨by have := HK1.out; have := HK2.out; omega⟩, ⟨by refine pk ?_; refine blk_far ?_ ai.out _; refine pk ?_; refine blk_far ?_ ai.out _; refine pk ?_; refine blk_far ?_ ai.out _; refine pk ?_; refine blk_far ?_ ai.out _; refine pk ?_; refine blk_far ?_ ai.out _; refine pk ?_; exact ak.out⟩, ⟨by refine pk ?_; refine blk_put (cs := #[.int .u64 ay, .int .u64 aG, .int .u64 aP, .int .u64 a9]) ?_ 0 _ rfl; refine pk ?_; refine blk_put (cs := #[.int .u64 ay, .int .u64 aG, .int .u64 aP, .int .u64 (Go.bits .xor .u64 aa ah)]) ?_ 3 _ rfl; refine pk ?_; refine blk_put (cs := #[.int .u64 ay, .int .u64 aG, .int .u64 ac, .int .u64 (Go.bits .xor .u64 aa ah)]) ?_ 2 _ rfl; refine pk ?_; refine blk_put (cs := #[.int .u64 ay, .int .u64 ad, .int .u64 ac, .int .u64 (Go.bits .xor .u64 aa ah)]) ?_ 1 _ rfl; refine pk ?_; refine blk_put (cs := #[.int .u64 ae, .int .u64 ad, .int .u64 ac, .int .u64 (Go.bits .xor .u64 aa ah)]) ?_ 0 _ rfl; refine pk ?_; exact aj.out⟩, ⟨pb HB⟩⟩
   ·rw [if_neg c8] at H;have bb : decide (ag ≤ (a1.size : Int)) = false := decide_eq_false c8;clear c8;replace H := Option.bind_eq_some_iff.mp H;obtain ⟨⟨bo, bp, bq, br⟩, bg, H⟩ := H
    try dsimp only at H
    have b2 := am bg;clear bg;obtain rfl := Option.some.inj H;have cm := az.out;have cn := ai.out;obtain ⟨bL, bM, bN, bO, bP, bQ, bR, bS⟩ := g4 aj
    go_wp2_with (first | ((with_reducible refine gate_callee (f := 34) rfl ?_); refine gl (some 82) Try.func34 #[.agg #[.int .u64 ae, .int .u64 ad, .int .u64 (Go.bits .xor .u64 ac 255), .int .u64 aa], .int .i64 4] ?_; (with_reducible refine (r05_turns.calls k1 ae ad (Go.bits .xor .u64 ac 255) aa 4 bo bp bq br _ b2.out).mono ?_); rintro e ct ⟨rfl, hb⟩; refine ⟨_, rfl, ?_⟩; replace ak := am (blk_below (g := aC) (o := .cells #[.int .u64 ao, .int .u64 ap] 24 (0, 0)) (by refine pk ?_; refine blk_far ?_ ai.out _; refine pk ?_; exact ak.out) hb); replace aj := am (blk_below (g := aD) (o := .cells #[.int .u64 ae, .int .u64 ad, .int .u64 (Go.bits .xor .u64 ac 255), .int .u64 aa] 75 (0, 0)) (by refine pk ?_; refine blk_put (cs := #[.int .u64 ae, .int .u64 ad, .int .u64 ac, .int .u64 aa]) ?_ 2 _ rfl; refine pk ?_; exact aj.out) hb); replace HB := lb HB hb; (try clear hb); (try clear hb2); (try clear hk); (try clear hi); obtain ⟨bT, bU, bV, bW, bX, bY, bZ, b0⟩ := g4 aj))
    go_ret
    exact ⟨by first | rfl | (simp [errW_none, errW_some] <;> rfl) | (simp [*, errW_none, errW_some] <;> rfl), pb HB⟩
def r14_Ahead.f (a0_0 : ByteArray) (a0_1 : Int) (a0_2 : Int) (a0_3 : Int) (a1_0 : ByteArray) (a1_1 : Int) (a1_2 : Int) (a1_3 : Int) : Option (Bool) := if a0_1 = a1_1 then (some (Op.bytesLess a0_0.toList a1_0.toList)) else (some (decide (a0_1 < a1_1)))
set_option maxHeartbeats 8000000 in
set_option maxRecDepth 100000 in
theorem r14_Ahead.calls (ae : ByteArray) (ac : Int) (ag : Int) (ah : Int) (af : ByteArray) (ad : Int) (ai : Int) (aj : Int) (r : Bool) (w : World) (h : r14_Ahead.f ae ac ag ah af ad ai aj = some r) :
  Calls Try.prog 23 #[.agg #[.string ae, .int .u64 ac, .int .u64 ag, .int .u64 ah], .agg #[.string af, .int .u64 ad, .int .u64 ai, .int .u64 aj]] w fun e w' => e = .returned (.bool r) ∧ Below w.heap.size w w' := by
 have hu60 := Try.underlying60;have HB := am (Below.refl w.heap.size w);have H : (if ac = ad then (some (Op.bytesLess ae.toList af.toList)) else (some (decide (ac < ad)))) = some r := h;clear h
 by_cases c3 : ac = ad
 ·rw [if_pos c3] at H;have ax : (ac == ad) = true := beq_iff_eq.mpr c3;have ay : (ac != ad) = false := bne_eq_false_iff_eq.mpr c3;clear c3;obtain rfl := Option.some.inj H
  go_enter Try.func23, Try.ntmps23
  go_wp2_with (first | ((with_reducible refine gate_dst (N := 2) rfl ?_); refine be 2 #[.string ae, .int .u64 ac, .int .u64 ag, .int .u64 ah] 60 ?_; intro ap hg w4 hbox hb; have aa := am (hbox); have aq := gq hg HB; have ar := gq hg HB; replace HB := lb HB hb; clear hb hbox hg) | ((with_reducible refine gate_dst (N := 3) rfl ?_); refine be 3 #[.string af, .int .u64 ad, .int .u64 ai, .int .u64 aj] 60 ?_; intro au hg w5 hbox hb; have ak := am (hbox); have av := gq hg HB; have aw := gq hg HB; replace HB := lb HB hb; obtain ⟨an, ao, a7, a8⟩ := pm hg aa; replace aa := kb aa hb; clear hb hbox hg; obtain ⟨aP, aQ, aR, aS, aT, aU, aV, aW⟩ := g4 aa; obtain ⟨aX, aY, aZ, a0, a1, a2, a3, a4⟩ := g4 ak))
  go_ret
  exact ⟨by first | rfl | (simp [errW_none, errW_some] <;> rfl) | (simp [*, errW_none, errW_some] <;> rfl), pb HB⟩
 rw [if_neg c3] at H;have ax : (ac == ad) = false := beq_eq_false_iff_ne.mpr c3;have ay : (ac != ad) = true := bne_iff_ne.mpr c3;obtain rfl := Option.some.inj H
 go_enter Try.func23, Try.ntmps23
 go_wp2_with (first | ((with_reducible refine gate_dst (N := 2) rfl ?_); refine be 2 #[.string ae, .int .u64 ac, .int .u64 ag, .int .u64 ah] 60 ?_; intro ap hg w9 hbox hb; have aa := am (hbox); have aq := gq hg HB; have ar := gq hg HB; replace HB := lb HB hb; clear hb hbox hg) | ((with_reducible refine gate_dst (N := 3) rfl ?_); refine be 3 #[.string af, .int .u64 ad, .int .u64 ai, .int .u64 aj] 60 ?_; intro au hg a9 hbox hb; have ak := am (hbox); have av := gq hg HB; have aw := gq hg HB; replace HB := lb HB hb; obtain ⟨an, ao, a5, a6⟩ := pm hg aa; replace aa := kb aa hb; clear hb hbox hg; obtain ⟨az, aA, aB, aC, aD, aE, aF, aG⟩ := g4 aa; obtain ⟨aH, aI, aJ, aK, aL, aM, aN, aO⟩ := g4 ak))
 go_ret
 exact ⟨by first | rfl | (simp [errW_none, errW_some] <;> rfl) | (simp [*, errW_none, errW_some] <;> rfl), pb HB⟩


end Go.Proofs.Ytmfffbafldbihaa.H
