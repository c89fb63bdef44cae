import Derived.Test.YtmfffbafldbihaaHx0
namespace Go.Proofs.Ytmfffbafldbihaa.H
open Go.RowKit Go.Proofs.YtmfffbafldbihaaW.PrintWords Go.Proofs.YtmfffbafldbihaaW.PrintLast Go.Proofs.YtmfffbafldbihaaW.PrintMore Go.Proofs.YtmfffbafldbihaaW.Sq
attribute [local go_sem] max2_int min2_int max_two min_two max_three min_three max_four min_four
set_option linter.unusedVariables false
set_option linter.unusedSimpArgs false

def r14_Small.l0 : Nat → Int → Int → Int → Int → List (S60) → Option (Bool)
 | 0, _, _, _, _, _ => none
 | k + 1, x3, x126000, x126001, x126002, x126003 => if x3 < (x126003.length : Int) then (if 0 ≤ x3 then (if (((rd_T60 x126003 x3).f0).size : Int) > 100 then (some false) else (r14_Small.l0 k (wrap64 (x3 + 1)) x126000 x126001 x126002 x126003)) else (none)) else (some true)
def r14_Small.f (k : Nat) (a0_0 : Int) (a0_1 : Int) (a0_2 : Int) (l0_3 : List (S60)) : Option (Bool) := if (l0_3.length : Int) > 60 then (some false) else (r14_Small.l0 k 0 a0_0 a0_1 a0_2 l0_3)
theorem r14_Small.mono_l : ∀ k, (∀ y0 y1 y2 y3 y4, LeO (r14_Small.l0 k y0 y1 y2 y3 y4) (r14_Small.l0 (k + 1) y0 y1 y2 y3 y4))
 | 0 => fun _ _ _ _ _ r h => by simp [r14_Small.l0] at h
 | k + 1 => by
  have ih0 := r14_Small.mono_l k
  ·intro y0 y1 y2 y3 y4
   unfold r14_Small.l0
   repeat' first
   | (with_reducible exact ih0 _ _ _ _ _)
   | (with_reducible exact LeO.refl _)
   | (with_reducible exact LeO.none _)
   | (with_reducible refine LeO.ite ?_ ?_)
   | (with_reducible refine LeO.bind ?_ (fun _ => ?_))
theorem r14_Small.mono : ∀ a0 a1 a2 a3 k, LeO (r14_Small.f k a0 a1 a2 a3) (r14_Small.f (k + 1) a0 a1 a2 a3) := by
 intro a0 a1 a2 a3 k
 have ih0 := r14_Small.mono_l k
 unfold r14_Small.f
 repeat' first
   | (with_reducible exact ih0 _ _ _ _ _)
   | (with_reducible exact LeO.refl _)
   | (with_reducible exact LeO.none _)
   | (with_reducible refine LeO.ite ?_ ?_)
   | (with_reducible refine LeO.bind ?_ (fun _ => ?_))
set_option maxHeartbeats 8000000 in
set_option maxRecDepth 100000 in
theorem r14_Small.calls (k : Nat) (a0_0 : Int) (a0_1 : Int) (a0_2 : Int) (A0_3 : Option Addr) (c0_3 : Nat) (l0_3 : List (S60)) (r : Bool) (w : World) (hr0_3 : Kd.C k60 w A0_3 l0_3.length l0_3) (hc0_3 : l0_3.length ≤ c0_3) (h : r14_Small.f k a0_0 a0_1 a0_2 l0_3 = some r) :
  Calls Try.prog 10 #[.agg #[.int .u64 a0_0, .int .u64 a0_1, .int .i64 a0_2, .slice A0_3 l0_3.length c0_3]] w fun e w' => e = .returned (.bool r) ∧ Below w.heap.size w w' := by
 have hu30 := Try.underlying30;have HR0_3 := am hr0_3;have HC0_3 := am hc0_3;clear hr0_3 hc0_3;have HB := am (Below.refl w.heap.size w);have H : (if (l0_3.length : Int) > 60 then (some false) else (r14_Small.l0 k 0 a0_0 a0_1 a0_2 l0_3)) = some r := h;clear h
 by_cases c2 : (l0_3.length : Int) > 60
 ·rw [if_pos c2] at H;have c2b0 : decide (60 < (l0_3.length : Int)) = true := decide_eq_true c2;have c2b1 : decide (60 < l0_3.length) = true := decide_eq_true (by omega);clear c2;obtain rfl := Option.some.inj H
  go_enter Try.func10, Try.ntmps10
  go_wp2_with (first | ((with_reducible refine gate_dst (N := 1) rfl ?_); refine be 1 #[.int .u64 a0_0, .int .u64 a0_1, .int .i64 a0_2, .slice A0_3 l0_3.length c0_3] 30 ?_; intro gb125 hg w3 hbox hb; have BK125 := am (hbox); have GW125 := am ((pg hg HB : w.heap.size ≤ gb125)); have GE125 := am ((pg hg HB : w.heap.size ≤ gb125)); replace HB := am (below_step (pb HB) hb); clear hb hbox hg; obtain ⟨hcz4_0, hcz4_1, hcz4_2, hcz4_3, hfz4_0, hfz4_1, hfz4_2, hfz4_3⟩ := g4 BK125))
  go_ret
  exact ⟨by first | rfl | (simp [errW_none, errW_some] <;> rfl) | (simp [*, errW_none, errW_some] <;> rfl), pb HB⟩
 rw [if_neg c2] at H;have c2b0 : decide (60 < (l0_3.length : Int)) = false := decide_eq_false c2;have c2b1 : decide (60 < l0_3.length) = false := decide_eq_false (by omega);clear c2;have H' := am H;clear H
 go_enter Try.func10, Try.ntmps10
 go_wp2_with (first | ((with_reducible refine gate_dst (N := 1) rfl ?_); refine be 1 #[.int .u64 a0_0, .int .u64 a0_1, .int .i64 a0_2, .slice A0_3 l0_3.length c0_3] 30 ?_; intro gb125 hg w5 hbox hb; have BK125 := am (hbox); have GW125 := am ((pg hg HB : w.heap.size ≤ gb125)); have GE125 := am ((pg hg HB : w.heap.size ≤ gb125)); replace HB := am (below_step (pb HB) hb); clear hb hbox hg; obtain ⟨hcz6_0, hcz6_1, hcz6_2, hcz6_3, hfz6_0, hfz6_1, hfz6_2, hfz6_3⟩ := g4 BK125))
 go_loopg [3] k (fun kq v3 w' => ∃ (x3_1 : Int), v3 = .int .i64 x3_1 ∧ Aside0 (r14_Small.l0 kq x3_1 a0_0 a0_1 a0_2 l0_3 = some r) ∧ Aside0 (kq ≤ k) ∧ Aside0 (w'.heap[gb125]? = some (.cells #[.int .u64 a0_0, .int .u64 a0_1, .int .i64 a0_2, (.slice A0_3 l0_3.length c0_3)] 30 (0, 0))) ∧ Aside0 (Below w.heap.size w w'))
 case atStart => exact ⟨(0), (by first | rfl | (simp; done) | (simp [*]; done)), H', ⟨Nat.le_refl _⟩, ⟨pk BK125.out⟩, ⟨pb HB⟩⟩
 case round =>
  clear H';(try clear c1);(try clear c2);(try clear c2b0);(try clear c2b1);(try clear p2);(try clear hcz4_0 hcz4_1 hcz4_2 hcz4_3);(try clear hcz6_0 hcz6_1 hcz6_2 hcz6_3);(try clear hfz4_0 hfz4_1 hfz4_2 hfz4_3);(try clear hfz6_0 hfz6_1 hfz6_2 hfz6_3);obtain ⟨x3_1, rfl, HA, HK1, BK125, HB⟩ := hrel
  cases gk with
  | zero => exact absurd HA.out (by simp [r14_Small.l0])
  | succ k1 =>
   have H := HA.out;clear HA
   simp only [r14_Small.l0] at H
   by_cases c7 : x3_1 < (l0_3.length : Int)
   ·rw [if_pos c7] at H;have c7b0 : decide (x3_1 < (l0_3.length : Int)) = true := decide_eq_true c7;clear c7
    by_cases c8 : 0 ≤ x3_1
    ·rw [if_pos c8] at H;have c8b0 : decide (0 ≤ x3_1) = true := decide_eq_true c8;clear c8
     by_cases c9 : (((rd_T60 l0_3 x3_1).f0).size : Int) > 100
     ·rw [if_pos c9] at H;have c9b0 : decide (100 < (((rd_T60 l0_3 x3_1).f0).size : Int)) = true := decide_eq_true c9;have c9b1 : decide (100 < ((rd_T60 l0_3 x3_1).f0).size) = true := decide_eq_true (by omega);clear c9;obtain rfl := Option.some.inj H;obtain ⟨hcz10_0, hcz10_1, hcz10_2, hcz10_3, hfz10_0, hfz10_1, hfz10_2, hfz10_3⟩ := g4 BK125;have p126 : 0 ≤ (x3_1 : Int) := of_decide_eq_true (by first | (with_reducible assumption) | assumption);have q126 : x3_1 < (l0_3.length : Int) := of_decide_eq_true (by first | (with_reducible assumption) | assumption);obtain ⟨ad126, e126, hx126_0, hx126_1, hx126_2, hx126_3⟩ := at_T60 HR0_3.out x3_1 p126 q126;cases e126;replace hx126_0 := (HB.out.cell (World.block_lt_of_cell? w _ hx126_0)).trans hx126_0;replace hx126_1 := (HB.out.cell (World.block_lt_of_cell? w _ hx126_1)).trans hx126_1;replace hx126_2 := (HB.out.cell (World.block_lt_of_cell? w _ hx126_2)).trans hx126_2;replace hx126_3 := (HB.out.cell (World.block_lt_of_cell? w _ hx126_3)).trans hx126_3;replace p126 := eq_true p126;replace q126 := eq_true q126
      go_wp2
      go_ret
      exact ⟨by first | rfl | (simp [errW_none, errW_some] <;> rfl) | (simp [*, errW_none, errW_some] <;> rfl), pb HB⟩
     ·rw [if_neg c9] at H;have c9b0 : decide (100 < (((rd_T60 l0_3 x3_1).f0).size : Int)) = false := decide_eq_false c9;have c9b1 : decide (100 < ((rd_T60 l0_3 x3_1).f0).size) = false := decide_eq_false (by omega);clear c9;have H' := am H;clear H;obtain ⟨hcz11_0, hcz11_1, hcz11_2, hcz11_3, hfz11_0, hfz11_1, hfz11_2, hfz11_3⟩ := g4 BK125;have p126 : 0 ≤ (x3_1 : Int) := of_decide_eq_true (by first | (with_reducible assumption) | assumption);have q126 : x3_1 < (l0_3.length : Int) := of_decide_eq_true (by first | (with_reducible assumption) | assumption);obtain ⟨ad126, e126, hx126_0, hx126_1, hx126_2, hx126_3⟩ := at_T60 HR0_3.out x3_1 p126 q126;cases e126;replace hx126_0 := (HB.out.cell (World.block_lt_of_cell? w _ hx126_0)).trans hx126_0;replace hx126_1 := (HB.out.cell (World.block_lt_of_cell? w _ hx126_1)).trans hx126_1;replace hx126_2 := (HB.out.cell (World.block_lt_of_cell? w _ hx126_2)).trans hx126_2;replace hx126_3 := (HB.out.cell (World.block_lt_of_cell? w _ hx126_3)).trans hx126_3;replace p126 := eq_true p126;replace q126 := eq_true q126
      go_wp2
      go_roundg k1
      case measure => have := HK1.out; omega
      case rel => exact ⟨(wrap64 (x3_1 + 1)), (by first | rfl | (simp; done) | (simp [*]; done)), H', ⟨by have := HK1.out; omega⟩, ⟨pk BK125.out⟩, ⟨pb HB⟩⟩
    ·rw [if_neg c8] at H;exact absurd H (by simp)
   ·rw [if_neg c7] at H;have c7b0 : decide (x3_1 < (l0_3.length : Int)) = false := decide_eq_false c7;clear c7;obtain rfl := Option.some.inj H;obtain ⟨hcz12_0, hcz12_1, hcz12_2, hcz12_3, hfz12_0, hfz12_1, hfz12_2, hfz12_3⟩ := g4 BK125
    go_wp2
    go_ret
    exact ⟨by first | rfl | (simp [errW_none, errW_some] <;> rfl) | (simp [*, errW_none, errW_some] <;> rfl), pb HB⟩
def sip_right.f (a0_0 : Int) (a0_1 : Int) (a0_2 : Int) (a0_3 : Int) (a0_4 : ByteArray) (a0_5 : Int) : Option (Bool) := if a0_5 ≥ 0 then (some ((a0_4.size : Int) == (Int.tmod a0_5 8))) else (some false)
set_option maxHeartbeats 8000000 in
set_option maxRecDepth 100000 in
theorem sip_right.calls (a0_0 : Int) (a0_1 : Int) (a0_2 : Int) (a0_3 : Int) (a0_4 : ByteArray) (a0_5 : Int) (r : Bool) (w : World) (h : sip_right.f a0_0 a0_1 a0_2 a0_3 a0_4 a0_5 = some r) :
  Calls Try.prog 54 #[.agg #[.int .u64 a0_0, .int .u64 a0_1, .int .u64 a0_2, .int .u64 a0_3, .string a0_4, .int .i64 a0_5]] w fun e w' => e = .returned (.bool r) ∧ Below w.heap.size w w' := by
 have hu85 := Try.underlying85;have HB := am (Below.refl w.heap.size w);have H : (if a0_5 ≥ 0 then (some ((a0_4.size : Int) == (Int.tmod a0_5 8))) else (some false)) = some r := h;clear h
 by_cases c2 : a0_5 ≥ 0
 ·rw [if_pos c2] at H;have c2b0 : decide (0 ≤ a0_5) = true := decide_eq_true c2;clear c2;obtain rfl := Option.some.inj H
  go_enter Try.func54, Try.ntmps54
  go_wp2_with (first | ((with_reducible refine gate_dst (N := 1) rfl ?_); (try (refine gate_guard (by rfl) ?_; dsimp only)); refine be 1 #[.int .u64 a0_0, .int .u64 a0_1, .int .u64 a0_2, .int .u64 a0_3, .string a0_4, .int .i64 a0_5] 85 ?_; intro gb127 hg w3 hbox hb; have BK127 := am (hbox); have GW127 := am ((pg hg HB : w.heap.size ≤ gb127)); have GE127 := am ((pg hg HB : w.heap.size ≤ gb127)); replace HB := am (below_step (pb HB) hb); clear hb hbox hg; obtain ⟨hcz4_0, hcz4_1, hcz4_2, hcz4_3, hcz4_4, hcz4_5, hfz4_0, hfz4_1, hfz4_2, hfz4_3, hfz4_4, hfz4_5⟩ := g6 BK127))
  go_ret
  exact ⟨by first | rfl | (simp [errW_none, errW_some] <;> rfl) | (simp [*, errW_none, errW_some] <;> rfl), pb HB⟩
 rw [if_neg c2] at H;have c2b0 : decide (0 ≤ a0_5) = false := decide_eq_false c2;clear c2;obtain rfl := Option.some.inj H
 go_enter Try.func54, Try.ntmps54
 go_wp2_with (first | ((with_reducible refine gate_dst (N := 1) rfl ?_); (try (refine gate_guard (by rfl) ?_; dsimp only)); refine be 1 #[.int .u64 a0_0, .int .u64 a0_1, .int .u64 a0_2, .int .u64 a0_3, .string a0_4, .int .i64 a0_5] 85 ?_; intro gb127 hg w5 hbox hb; have BK127 := am (hbox); have GW127 := am ((pg hg HB : w.heap.size ≤ gb127)); have GE127 := am ((pg hg HB : w.heap.size ≤ gb127)); replace HB := am (below_step (pb HB) hb); clear hb hbox hg; obtain ⟨hcz6_0, hcz6_1, hcz6_2, hcz6_3, hcz6_4, hcz6_5, hfz6_0, hfz6_1, hfz6_2, hfz6_3, hfz6_4, hfz6_5⟩ := g6 BK127))
 go_ret
 exact ⟨by first | rfl | (simp [errW_none, errW_some] <;> rfl) | (simp [*, errW_none, errW_some] <;> rfl), pb HB⟩
def bits_RotateLeft64.f (a0 : Int) (a1 : Int) : Option (Int) := if 0 ≤ (Go.bits .and .u64 (IntKind.u64.wrap (a1)) 63) then (if 0 ≤ (IntKind.u64.wrap (64 - (Go.bits .and .u64 (IntKind.u64.wrap (a1)) 63))) then (some (Go.bits .or .u64 (shl .u64 a0 (Go.bits .and .u64 (IntKind.u64.wrap (a1)) 63)) (shr .u64 a0 (IntKind.u64.wrap (64 - (Go.bits .and .u64 (IntKind.u64.wrap (a1)) 63)))))) else (none)) else (none)
set_option maxHeartbeats 8000000 in
set_option maxRecDepth 100000 in
theorem bits_RotateLeft64.calls (a0 : Int) (a1 : Int) (r : Int) (w : World) (h : bits_RotateLeft64.f a0 a1 = some r) :
  Calls Try.prog 61 #[.int .u64 a0, .int .i64 a1] w fun e w' => e = .returned (.int .u64 r) ∧ Drawn0 w w' := by
 have H : (if 0 ≤ (Go.bits .and .u64 (IntKind.u64.wrap (a1)) 63) then (if 0 ≤ (IntKind.u64.wrap (64 - (Go.bits .and .u64 (IntKind.u64.wrap (a1)) 63))) then (some (Go.bits .or .u64 (shl .u64 a0 (Go.bits .and .u64 (IntKind.u64.wrap (a1)) 63)) (shr .u64 a0 (IntKind.u64.wrap (64 - (Go.bits .and .u64 (IntKind.u64.wrap (a1)) 63)))))) else (none)) else (none)) = some r := h;clear h;obtain ⟨ji3, hji3⟩ : ∃ j_ : Int, (Go.bits .and .u64 (IntKind.u64.wrap (a1)) 63) = j_ := ⟨_, rfl⟩
 replace H : (if 0 ≤ (ji3) then (if 0 ≤ (IntKind.u64.wrap (64 - (ji3))) then (some (Go.bits .or .u64 (shl .u64 a0 (ji3)) (shr .u64 a0 (IntKind.u64.wrap (64 - (ji3)))))) else (none)) else (none)) = some r := by first | (rw [hji3] at H; exact H) | (simp only [hji3] at H ⊢; exact H)
 by_cases c4 : 0 ≤ (ji3)
 rotate_left
 ·rw [if_neg c4] at H;exact absurd H (by simp)
 rw [if_pos c4] at H;have c4b0 := eq_true c4;have c4b1 : decide (0 ≤ (ji3)) = true := decide_eq_true c4;clear c4;obtain ⟨ji5, hji5⟩ : ∃ j_ : Int, (shl .u64 a0 (ji3)) = j_ := ⟨_, rfl⟩
 replace H : (if 0 ≤ (IntKind.u64.wrap (64 - (ji3))) then (some (Go.bits .or .u64 (ji5) (shr .u64 a0 (IntKind.u64.wrap (64 - (ji3)))))) else (none)) = some r := by first | (rw [hji5] at H; exact H) | (simp only [hji5] at H ⊢; exact H)
 have hji5_ : (IntKind.u64.wrap (a0 * 2 ^ min (ji3).toNat 64)) = ji5 := hji5;have hji5z : (ji3) ≤ 64 → (IntKind.u64.wrap (a0 * 2 ^ (ji3).toNat)) = ji5 := shl_small hji5;obtain ⟨ji6, hji6⟩ : ∃ j_ : Int, (IntKind.u64.wrap (64 - (ji3))) = j_ := ⟨_, rfl⟩
 replace H : (if 0 ≤ (ji6) then (some (Go.bits .or .u64 (ji5) (shr .u64 a0 (ji6)))) else (none)) = some r := by first | (rw [hji6] at H; exact H) | (simp only [hji6] at H ⊢; exact H)
 by_cases c7 : 0 ≤ (ji6)
 rotate_left
 ·rw [if_neg c7] at H;exact absurd H (by simp)
 rw [if_pos c7] at H;have c7b0 := eq_true c7;have c7b1 : decide (0 ≤ (ji6)) = true := decide_eq_true c7;clear c7;obtain ⟨ji8, hji8⟩ : ∃ j_ : Int, (shr .u64 a0 (ji6)) = j_ := ⟨_, rfl⟩
 replace H : (some (Go.bits .or .u64 (ji5) (ji8))) = some r := by first | (rw [hji8] at H; exact H) | (simp only [hji8] at H ⊢; exact H)
 have hji8_ : (a0 / 2 ^ min (ji6).toNat 64) = ji8 := hji8;have hji8z : (ji6) ≤ 64 → (a0 / 2 ^ (ji6).toNat) = ji8 := shr_small hji8;obtain rfl := Option.some.inj H
 go_enter Try.func61, Try.ntmps61
 go_wp2
 go_ret
 exact ⟨by first | rfl | (simp; done) | (simp only [← hji3, ← hji5, ← hji6, ← hji8] <;> (first | rfl | (simp; done) | (simp [show ∀ j_ : Int, shl .u64 0 j_ = 0 from fun j_ => by unfold shl; rw [Int.zero_mul]; decide]; done))) | (simp [*]; done), by repeat (first | exact Drawn0.refl _ | apply Drawn0.step)⟩
def sip_turn.f (a0_0 : Int) (a0_1 : Int) (a0_2 : Int) (a0_3 : Int) : Option (Int × Int × Int × Int) := (bits_RotateLeft64.f a0_1 13).bind fun t130 => ((bits_RotateLeft64.f (IntKind.u64.wrap (a0_0 + a0_1)) 32).bind fun t131 => ((bits_RotateLeft64.f a0_3 16).bind fun t132 => ((bits_RotateLeft64.f (Go.bits .xor .u64 t132 (IntKind.u64.wrap (a0_2 + a0_3))) 21).bind fun t133 => ((bits_RotateLeft64.f (Go.bits .xor .u64 t130 (IntKind.u64.wrap (a0_0 + a0_1))) 17).bind fun t134 => ((bits_RotateLeft64.f (IntKind.u64.wrap ((IntKind.u64.wrap (a0_2 + a0_3)) + (Go.bits .xor .u64 t130 (IntKind.u64.wrap (a0_0 + a0_1))))) 32).bind fun t135 => (some (IntKind.u64.wrap (t131 + (Go.bits .xor .u64 t132 (IntKind.u64.wrap (a0_2 + a0_3)))), Go.bits .xor .u64 t134 (IntKind.u64.wrap ((IntKind.u64.wrap (a0_2 + a0_3)) + (Go.bits .xor .u64 t130 (IntKind.u64.wrap (a0_0 + a0_1))))), t135, Go.bits .xor .u64 t133 (IntKind.u64.wrap (t131 + (Go.bits .xor .u64 t132 (IntKind.u64.wrap (a0_2 + a0_3))))))))))))
set_option maxHeartbeats 8000000 in
set_option maxRecDepth 100000 in
theorem sip_turn.calls (a0_0 : Int) (a0_1 : Int) (a0_2 : Int) (a0_3 : Int) (r1 : Int) (r2 : Int) (r3 : Int) (r4 : Int) (w : World) (h : sip_turn.f a0_0 a0_1 a0_2 a0_3 = some (r1, r2, r3, r4)) :
  Calls Try.prog 57 #[.agg #[.int .u64 a0_0, .int .u64 a0_1, .int .u64 a0_2, .int .u64 a0_3]] w fun e w' => e = .returned (.agg #[.int .u64 r1, .int .u64 r2, .int .u64 r3, .int .u64 r4]) ∧ Below w.heap.size w w' := by
 have hu75 := Try.underlying75;have HB := am (Below.refl w.heap.size w);have H : ((bits_RotateLeft64.f a0_1 13).bind fun t130 => ((bits_RotateLeft64.f (IntKind.u64.wrap (a0_0 + a0_1)) 32).bind fun t131 => ((bits_RotateLeft64.f a0_3 16).bind fun t132 => ((bits_RotateLeft64.f (Go.bits .xor .u64 t132 (IntKind.u64.wrap (a0_2 + a0_3))) 21).bind fun t133 => ((bits_RotateLeft64.f (Go.bits .xor .u64 t130 (IntKind.u64.wrap (a0_0 + a0_1))) 17).bind fun t134 => ((bits_RotateLeft64.f (IntKind.u64.wrap ((IntKind.u64.wrap (a0_2 + a0_3)) + (Go.bits .xor .u64 t130 (IntKind.u64.wrap (a0_0 + a0_1))))) 32).bind fun t135 => (some (IntKind.u64.wrap (t131 + (Go.bits .xor .u64 t132 (IntKind.u64.wrap (a0_2 + a0_3)))), Go.bits .xor .u64 t134 (IntKind.u64.wrap ((IntKind.u64.wrap (a0_2 + a0_3)) + (Go.bits .xor .u64 t130 (IntKind.u64.wrap (a0_0 + a0_1))))), t135, Go.bits .xor .u64 t133 (IntKind.u64.wrap (t131 + (Go.bits .xor .u64 t132 (IntKind.u64.wrap (a0_2 + a0_3))))))))))))) = some (r1, r2, r3, r4) := h;clear h;replace H := Option.bind_eq_some_iff.mp H;obtain ⟨t130, A20, H⟩ := H
 try dsimp only at H
 have A2 := am A20;clear A20;replace H := Option.bind_eq_some_iff.mp H;obtain ⟨t131, A30, H⟩ := H
 try dsimp only at H
 have A3 := am A30;clear A30;replace H := Option.bind_eq_some_iff.mp H;obtain ⟨t132, A40, H⟩ := H
 try dsimp only at H
 have A4 := am A40;clear A40;replace H := Option.bind_eq_some_iff.mp H;obtain ⟨t133, A50, H⟩ := H
 try dsimp only at H
 have A5 := am A50;clear A50;replace H := Option.bind_eq_some_iff.mp H;obtain ⟨t134, A60, H⟩ := H
 try dsimp only at H
 have A6 := am A60;clear A60;replace H := Option.bind_eq_some_iff.mp H;obtain ⟨t135, A70, H⟩ := H
 try dsimp only at H
 have A7 := am A70;clear A70
 simp only [Option.some.injEq, Prod.mk.injEq] at H
 obtain ⟨rfl, rfl, rfl, rfl⟩ := H
 go_enter Try.func57, Try.ntmps57
 go_wp2_with (first | ((with_reducible refine gate_dst (N := 1) rfl ?_); refine be 1 #[.int .u64 a0_0, .int .u64 a0_1, .int .u64 a0_2, .int .u64 a0_3] 75 ?_; intro gb128 hg w8 hbox hb; have BK128 := am (hbox); have GW128 := am ((pg hg HB : w.heap.size ≤ gb128)); have GE128 := am ((pg hg HB : w.heap.size ≤ gb128)); replace HB := am (below_step (pb HB) hb); clear hb hbox hg) | ((with_reducible refine gate_dst (N := 2) rfl ?_); refine be 2 #[.int .u64 0, .int .u64 0, .int .u64 0, .int .u64 0] 75 ?_; intro gb129 hg w9 hbox hb; have BK129 := am (hbox); have GW129 := am ((pg hg HB : w.heap.size ≤ gb129)); have GE129 := am ((pg hg HB : w.heap.size ≤ gb129)); replace HB := am (below_step (pb HB) hb); obtain ⟨NB128_129, NB129_128, hnb10, hnc10⟩ := pm hg BK128; replace BK128 := am (blk_below (pk BK128.out) hb); clear hb hbox hg; obtain ⟨hcz11_0, hcz11_1, hcz11_2, hcz11_3, hfz11_0, hfz11_1, hfz11_2, hfz11_3⟩ := g4 BK128) | (go_at_call 61; (with_reducible refine (bits_RotateLeft64.calls a0_1 13 t130 _ A2.out).mono ?_); rintro e w' ⟨rfl, ⟨nd, rfl⟩⟩; (try first | exact ⟨rfl, _, World.drewN_drewN _ _ _⟩ | exact ⟨rfl, _, Eq.trans (World.drewN_drewN _ _ _) (congrArg (World.drewN _) (Nat.add_assoc _ _ _))⟩)) | (go_at_call 61; (with_reducible refine (bits_RotateLeft64.calls (IntKind.u64.wrap (a0_0 + a0_1)) 32 t131 _ A3.out).mono ?_); rintro e w' ⟨rfl, ⟨nd, rfl⟩⟩; (try first | exact ⟨rfl, _, World.drewN_drewN _ _ _⟩ | exact ⟨rfl, _, Eq.trans (World.drewN_drewN _ _ _) (congrArg (World.drewN _) (Nat.add_assoc _ _ _))⟩)) | (go_at_call 61; (with_reducible refine (bits_RotateLeft64.calls a0_3 16 t132 _ A4.out).mono ?_); rintro e w' ⟨rfl, ⟨nd, rfl⟩⟩; (try first | exact ⟨rfl, _, World.drewN_drewN _ _ _⟩ | exact ⟨rfl, _, Eq.trans (World.drewN_drewN _ _ _) (congrArg (World.drewN _) (Nat.add_assoc _ _ _))⟩)) | (go_at_call 61; (with_reducible refine (bits_RotateLeft64.calls (Go.bits .xor .u64 t132 (IntKind.u64.wrap (a0_2 + a0_3))) 21 t133 _ A5.out).mono ?_); rintro e w' ⟨rfl, ⟨nd, rfl⟩⟩; (try first | exact ⟨rfl, _, World.drewN_drewN _ _ _⟩ | exact ⟨rfl, _, Eq.trans (World.drewN_drewN _ _ _) (congrArg (World.drewN _) (Nat.add_assoc _ _ _))⟩)) | (go_at_call 61; (with_reducible refine (bits_RotateLeft64.calls (Go.bits .xor .u64 t130 (IntKind.u64.wrap (a0_0 + a0_1))) 17 t134 _ A6.out).mono ?_); rintro e w' ⟨rfl, ⟨nd, rfl⟩⟩; (try first | exact ⟨rfl, _, World.drewN_drewN _ _ _⟩ | exact ⟨rfl, _, Eq.trans (World.drewN_drewN _ _ _) (congrArg (World.drewN _) (Nat.add_assoc _ _ _))⟩)) | (go_at_call 61; (with_reducible refine (bits_RotateLeft64.calls (IntKind.u64.wrap ((IntKind.u64.wrap (a0_2 + a0_3)) + (Go.bits .xor .u64 t130 (IntKind.u64.wrap (a0_0 + a0_1))))) 32 t135 _ A7.out).mono ?_); rintro e w' ⟨rfl, ⟨nd, rfl⟩⟩; (try first | exact ⟨rfl, _, World.drewN_drewN _ _ _⟩ | exact ⟨rfl, _, Eq.trans (World.drewN_drewN _ _ _) (congrArg (World.drewN _) (Nat.add_assoc _ _ _))⟩); obtain ⟨hcz12_0, hcz12_1, hcz12_2, hcz12_3, hfz12_0, hfz12_1, hfz12_2, hfz12_3⟩ := g4 BK129))
 repeat (go_quiet (first | ((with_reducible refine gate_dst (N := 1) rfl ?_); refine be 1 #[.int .u64 a0_0, .int .u64 a0_1, .int .u64 a0_2, .int .u64 a0_3] 75 ?_; intro gb128 hg w8 hbox hb; have BK128 := am (hbox); have GW128 := am ((pg hg HB : w.heap.size ≤ gb128)); have GE128 := am ((pg hg HB : w.heap.size ≤ gb128)); replace HB := am (below_step (pb HB) hb); clear hb hbox hg) | ((with_reducible refine gate_dst (N := 2) rfl ?_); refine be 2 #[.int .u64 0, .int .u64 0, .int .u64 0, .int .u64 0] 75 ?_; intro gb129 hg w9 hbox hb; have BK129 := am (hbox); have GW129 := am ((pg hg HB : w.heap.size ≤ gb129)); have GE129 := am ((pg hg HB : w.heap.size ≤ gb129)); replace HB := am (below_step (pb HB) hb); obtain ⟨NB128_129, NB129_128, hnb10, hnc10⟩ := pm hg BK128; replace BK128 := am (blk_below (pk BK128.out) hb); clear hb hbox hg; obtain ⟨hcz11_0, hcz11_1, hcz11_2, hcz11_3, hfz11_0, hfz11_1, hfz11_2, hfz11_3⟩ := g4 BK128) | (go_at_call 61; (with_reducible refine (bits_RotateLeft64.calls a0_1 13 t130 _ A2.out).mono ?_); rintro e w' ⟨rfl, ⟨nd, rfl⟩⟩; (try first | exact ⟨rfl, _, World.drewN_drewN _ _ _⟩ | exact ⟨rfl, _, Eq.trans (World.drewN_drewN _ _ _) (congrArg (World.drewN _) (Nat.add_assoc _ _ _))⟩)) | (go_at_call 61; (with_reducible refine (bits_RotateLeft64.calls (IntKind.u64.wrap (a0_0 + a0_1)) 32 t131 _ A3.out).mono ?_); rintro e w' ⟨rfl, ⟨nd, rfl⟩⟩; (try first | exact ⟨rfl, _, World.drewN_drewN _ _ _⟩ | exact ⟨rfl, _, Eq.trans (World.drewN_drewN _ _ _) (congrArg (World.drewN _) (Nat.add_assoc _ _ _))⟩)) | (go_at_call 61; (with_reducible refine (bits_RotateLeft64.calls a0_3 16 t132 _ A4.out).mono ?_); rintro e w' ⟨rfl, ⟨nd, rfl⟩⟩; (try first | exact ⟨rfl, _, World.drewN_drewN _ _ _⟩ | exact ⟨rfl, _, Eq.trans (World.drewN_drewN _ _ _) (congrArg (World.drewN _) (Nat.add_assoc _ _ _))⟩)) | (go_at_call 61; (with_reducible refine (bits_RotateLeft64.calls (Go.bits .xor .u64 t132 (IntKind.u64.wrap (a0_2 + a0_3))) 21 t133 _ A5.out).mono ?_); rintro e w' ⟨rfl, ⟨nd, rfl⟩⟩; (try first | exact ⟨rfl, _, World.drewN_drewN _ _ _⟩ | exact ⟨rfl, _, Eq.trans (World.drewN_drewN _ _ _) (congrArg (World.drewN _) (Nat.add_assoc _ _ _))⟩)) | (go_at_call 61; (with_reducible refine (bits_RotateLeft64.calls (Go.bits .xor .u64 t130 (IntKind.u64.wrap (a0_0 + a0_1))) 17 t134 _ A6.out).mono ?_); rintro e w' ⟨rfl, ⟨nd, rfl⟩⟩; (try first | exact ⟨rfl, _, World.drewN_drewN _ _ _⟩ | exact ⟨rfl, _, Eq.trans (World.drewN_drewN _ _ _) (congrArg (World.drewN _) (Nat.add_assoc _ _ _))⟩)) | (go_at_call 61; (with_reducible refine (bits_RotateLeft64.calls (IntKind.u64.wrap ((IntKind.u64.wrap (a0_2 + a0_3)) + (Go.bits .xor .u64 t130 (IntKind.u64.wrap (a0_0 + a0_1))))) 32 t135 _ A7.out).mono ?_); rintro e w' ⟨rfl, ⟨nd, rfl⟩⟩; (try first | exact ⟨rfl, _, World.drewN_drewN _ _ _⟩ | exact ⟨rfl, _, Eq.trans (World.drewN_drewN _ _ _) (congrArg (World.drewN _) (Nat.add_assoc _ _ _))⟩); obtain ⟨hcz12_0, hcz12_1, hcz12_2, hcz12_3, hfz12_0, hfz12_1, hfz12_2, hfz12_3⟩ := g4 BK129)); try go_wp2_with (first | ((with_reducible refine gate_dst (N := 1) rfl ?_); refine be 1 #[.int .u64 a0_0, .int .u64 a0_1, .int .u64 a0_2, .int .u64 a0_3] 75 ?_; intro gb128 hg w8 hbox hb; have BK128 := am (hbox); have GW128 := am ((pg hg HB : w.heap.size ≤ gb128)); have GE128 := am ((pg hg HB : w.heap.size ≤ gb128)); replace HB := am (below_step (pb HB) hb); clear hb hbox hg) | ((with_reducible refine gate_dst (N := 2) rfl ?_); refine be 2 #[.int .u64 0, .int .u64 0, .int .u64 0, .int .u64 0] 75 ?_; intro gb129 hg w9 hbox hb; have BK129 := am (hbox); have GW129 := am ((pg hg HB : w.heap.size ≤ gb129)); have GE129 := am ((pg hg HB : w.heap.size ≤ gb129)); replace HB := am (below_step (pb HB) hb); obtain ⟨NB128_129, NB129_128, hnb10, hnc10⟩ := pm hg BK128; replace BK128 := am (blk_below (pk BK128.out) hb); clear hb hbox hg; obtain ⟨hcz11_0, hcz11_1, hcz11_2, hcz11_3, hfz11_0, hfz11_1, hfz11_2, hfz11_3⟩ := g4 BK128) | (go_at_call 61; (with_reducible refine (bits_RotateLeft64.calls a0_1 13 t130 _ A2.out).mono ?_); rintro e w' ⟨rfl, ⟨nd, rfl⟩⟩; (try first | exact ⟨rfl, _, World.drewN_drewN _ _ _⟩ | exact ⟨rfl, _, Eq.trans (World.drewN_drewN _ _ _) (congrArg (World.drewN _) (Nat.add_assoc _ _ _))⟩)) | (go_at_call 61; (with_reducible refine (bits_RotateLeft64.calls (IntKind.u64.wrap (a0_0 + a0_1)) 32 t131 _ A3.out).mono ?_); rintro e w' ⟨rfl, ⟨nd, rfl⟩⟩; (try first | exact ⟨rfl, _, World.drewN_drewN _ _ _⟩ | exact ⟨rfl, _, Eq.trans (World.drewN_drewN _ _ _) (congrArg (World.drewN _) (Nat.add_assoc _ _ _))⟩)) | (go_at_call 61; (with_reducible refine (bits_RotateLeft64.calls a0_3 16 t132 _ A4.out).mono ?_); rintro e w' ⟨rfl, ⟨nd, rfl⟩⟩; (try first | exact ⟨rfl, _, World.drewN_drewN _ _ _⟩ | exact ⟨rfl, _, Eq.trans (World.drewN_drewN _ _ _) (congrArg (World.drewN _) (Nat.add_assoc _ _ _))⟩)) | (go_at_call 61; (with_reducible refine (bits_RotateLeft64.calls (Go.bits .xor .u64 t132 (IntKind.u64.wrap (a0_2 + a0_3))) 21 t133 _ A5.out).mono ?_); rintro e w' ⟨rfl, ⟨nd, rfl⟩⟩; (try first | exact ⟨rfl, _, World.drewN_drewN _ _ _⟩ | exact ⟨rfl, _, Eq.trans (World.drewN_drewN _ _ _) (congrArg (World.drewN _) (Nat.add_assoc _ _ _))⟩)) | (go_at_call 61; (with_reducible refine (bits_RotateLeft64.calls (Go.bits .xor .u64 t130 (IntKind.u64.wrap (a0_0 + a0_1))) 17 t134 _ A6.out).mono ?_); rintro e w' ⟨rfl, ⟨nd, rfl⟩⟩; (try first | exact ⟨rfl, _, World.drewN_drewN _ _ _⟩ | exact ⟨rfl, _, Eq.trans (World.drewN_drewN _ _ _) (congrArg (World.drewN _) (Nat.add_assoc _ _ _))⟩)) | (go_at_call 61; (with_reducible refine (bits_RotateLeft64.calls (IntKind.u64.wrap ((IntKind.u64.wrap (a0_2 + a0_3)) + (Go.bits .xor .u64 t130 (IntKind.u64.wrap (a0_0 + a0_1))))) 32 t135 _ A7.out).mono ?_); rintro e w' ⟨rfl, ⟨nd, rfl⟩⟩; (try first | exact ⟨rfl, _, World.drewN_drewN _ _ _⟩ | exact ⟨rfl, _, Eq.trans (World.drewN_drewN _ _ _) (congrArg (World.drewN _) (Nat.add_assoc _ _ _))⟩); obtain ⟨hcz12_0, hcz12_1, hcz12_2, hcz12_3, hfz12_0, hfz12_1, hfz12_2, hfz12_3⟩ := g4 BK129)))
 refine bodyPost_ret (results_cell_row rfl _ _ gb129 75 #[.int .u64 (IntKind.u64.wrap (t131 + (Go.bits .xor .u64 t132 (IntKind.u64.wrap (a0_2 + a0_3))))), .int .u64 (Go.bits .xor .u64 t134 (IntKind.u64.wrap ((IntKind.u64.wrap (a0_2 + a0_3)) + (Go.bits .xor .u64 t130 (IntKind.u64.wrap (a0_0 + a0_1)))))), .int .u64 t135, .int .u64 (Go.bits .xor .u64 t133 (IntKind.u64.wrap (t131 + (Go.bits .xor .u64 t132 (IntKind.u64.wrap (a0_2 + a0_3))))))] (0, 0) _ rfl (by refine pk ?_; refine blk_put (cs := #[.int .u64 (IntKind.u64.wrap (t131 + (Go.bits .xor .u64 t132 (IntKind.u64.wrap (a0_2 + a0_3))))), .int .u64 (Go.bits .xor .u64 t134 (IntKind.u64.wrap ((IntKind.u64.wrap (a0_2 + a0_3)) + (Go.bits .xor .u64 t130 (IntKind.u64.wrap (a0_0 + a0_1)))))), .int .u64 t135, .int .u64 0]) ?_ 3 _ rfl; refine pk ?_; refine blk_put (cs := #[.int .u64 (IntKind.u64.wrap (t131 + (Go.bits .xor .u64 t132 (IntKind.u64.wrap (a0_2 + a0_3))))), .int .u64 (Go.bits .xor .u64 t134 (IntKind.u64.wrap ((IntKind.u64.wrap (a0_2 + a0_3)) + (Go.bits .xor .u64 t130 (IntKind.u64.wrap (a0_0 + a0_1)))))), .int .u64 0, .int .u64 0]) ?_ 2 _ rfl; refine pk ?_; refine blk_put (cs := #[.int .u64 (IntKind.u64.wrap (t131 + (Go.bits .xor .u64 t132 (IntKind.u64.wrap (a0_2 + a0_3))))), .int .u64 0, .int .u64 0, .int .u64 0]) ?_ 1 _ rfl; refine pk ?_; refine blk_put (cs := #[.int .u64 0, .int .u64 0, .int .u64 0, .int .u64 0]) ?_ 0 _ rfl; refine pk ?_; exact BK129.out) Try.underlying75 rfl (by kernel_rfl)) rfl ?_
 exact ⟨by first | rfl | (simp [errW_none, errW_some] <;> rfl) | (simp [*, errW_none, errW_some] <;> rfl), pb HB⟩

def sip_take.f (a0_0 : Int) (a0_1 : Int) (a0_2 : Int) (a0_3 : Int) (a1 : Int) : Option (Int × Int × Int × Int) := (sip_turn.f a0_0 a0_1 a0_2 (Go.bits .xor .u64 a0_3 a1)).bind fun bt138 => ((sip_turn.f bt138.1 bt138.2.1 bt138.2.2.1 bt138.2.2.2).bind fun bt142 => (some (Go.bits .xor .u64 bt142.1 a1, bt142.2.1, bt142.2.2.1, bt142.2.2.2)))
set_option maxHeartbeats 8000000 in
set_option maxRecDepth 100000 in
theorem sip_take.calls (a0_0 : Int) (a0_1 : Int) (a0_2 : Int) (a0_3 : Int) (a1 : Int) (r1 : Int) (r2 : Int) (r3 : Int) (r4 : Int) (w : World) (h : sip_take.f a0_0 a0_1 a0_2 a0_3 a1 = some (r1, r2, r3, r4)) :
  Calls Try.prog 55 #[.agg #[.int .u64 a0_0, .int .u64 a0_1, .int .u64 a0_2, .int .u64 a0_3], .int .u64 a1] w fun e w' => e = .returned (.agg #[.int .u64 r1, .int .u64 r2, .int .u64 r3, .int .u64 r4]) ∧ Below w.heap.size w w' := by
 have hu75 := Try.underlying75;have HB := am (Below.refl w.heap.size w);have H : ((sip_turn.f a0_0 a0_1 a0_2 (Go.bits .xor .u64 a0_3 a1)).bind fun bt138 => ((sip_turn.f bt138.1 bt138.2.1 bt138.2.2.1 bt138.2.2.2).bind fun bt142 => (some (Go.bits .xor .u64 bt142.1 a1, bt142.2.1, bt142.2.2.1, bt142.2.2.2)))) = some (r1, r2, r3, r4) := h;clear h;replace H := Option.bind_eq_some_iff.mp H;obtain ⟨⟨t138, t139, t140, t141⟩, A30, H⟩ := H
 try dsimp only at H
 have A3 := am A30;clear A30;replace H := Option.bind_eq_some_iff.mp H;obtain ⟨⟨t142, t143, t144, t145⟩, A40, H⟩ := H
 try dsimp only at H
 have A4 := am A40;clear A40
 simp only [Option.some.injEq, Prod.mk.injEq] at H
 obtain ⟨rfl, rfl, rfl, rfl⟩ := H
 go_enter Try.func55, Try.ntmps55
 go_wp2_with (first | ((with_reducible refine gate_dst (N := 2) rfl ?_); refine be 2 #[.int .u64 a0_0, .int .u64 a0_1, .int .u64 a0_2, .int .u64 a0_3] 75 ?_; intro gb136 hg w5 hbox hb; have BK136 := am (hbox); have GW136 := am ((pg hg HB : w.heap.size ≤ gb136)); have GE136 := am ((pg hg HB : w.heap.size ≤ gb136)); replace HB := am (below_step (pb HB) hb); clear hb hbox hg) | ((with_reducible refine gate_dst (N := 4) rfl ?_); refine be 4 #[.int .u64 0, .int .u64 0, .int .u64 0, .int .u64 0] 75 ?_; intro gb137 hg w6 hbox hb; have BK137 := am (hbox); have GW137 := am ((pg hg HB : w.heap.size ≤ gb137)); have GE137 := am ((pg hg HB : w.heap.size ≤ gb137)); replace HB := am (below_step (pb HB) hb); obtain ⟨NB136_137, NB137_136, hnb7, hnc7⟩ := pm hg BK136; replace BK136 := am (blk_below (pk BK136.out) hb); clear hb hbox hg; obtain ⟨hcz8_0, hcz8_1, hcz8_2, hcz8_3, hfz8_0, hfz8_1, hfz8_2, hfz8_3⟩ := g4 BK136) | ((with_reducible refine gate_callee (f := 57) rfl ?_); refine gl (some 11) Try.func57 #[.agg #[.int .u64 a0_0, .int .u64 a0_1, .int .u64 a0_2, .int .u64 (Go.bits .xor .u64 a0_3 a1)]] ?_; (with_reducible refine (sip_turn.calls a0_0 a0_1 a0_2 (Go.bits .xor .u64 a0_3 a1) t138 t139 t140 t141 _ A3.out).mono ?_); rintro e w9 ⟨rfl, hb⟩; refine ⟨_, rfl, ?_⟩; replace BK136 := am (blk_below (g := gb136) (o := .cells #[.int .u64 a0_0, .int .u64 a0_1, .int .u64 a0_2, .int .u64 (Go.bits .xor .u64 a0_3 a1)] 75 (0, 0)) (by refine pk ?_; refine blk_put (cs := #[.int .u64 a0_0, .int .u64 a0_1, .int .u64 a0_2, .int .u64 a0_3]) ?_ 3 _ rfl; refine pk ?_; exact BK136.out) hb); replace BK137 := am (blk_below (g := gb137) (o := .cells #[.int .u64 0, .int .u64 0, .int .u64 0, .int .u64 0] 75 (0, 0)) (by refine pk ?_; refine blk_far ?_ NB137_136.out _; refine pk ?_; exact BK137.out) hb); replace HB := am (below_step (pb HB) hb); (try clear hb); (try clear hb2); (try clear hk); (try clear hi)) | ((with_reducible refine gate_callee (f := 57) rfl ?_); refine gl (some 12) Try.func57 #[.agg #[.int .u64 t138, .int .u64 t139, .int .u64 t140, .int .u64 t141]] ?_; (with_reducible refine (sip_turn.calls t138 t139 t140 t141 t142 t143 t144 t145 _ A4.out).mono ?_); rintro e w10 ⟨rfl, hb⟩; refine ⟨_, rfl, ?_⟩; replace BK136 := am (blk_below (pk BK136.out) hb); replace BK137 := am (blk_below (pk BK137.out) hb); replace HB := am (below_step (pb HB) hb); (try clear hb); (try clear hb2); (try clear hk); (try clear hi); obtain ⟨hcz11_0, hcz11_1, hcz11_2, hcz11_3, hfz11_0, hfz11_1, hfz11_2, hfz11_3⟩ := g4 BK136; obtain ⟨hcz12_0, hcz12_1, hcz12_2, hcz12_3, hfz12_0, hfz12_1, hfz12_2, hfz12_3⟩ := g4 BK137))
 refine bodyPost_ret (results_cell_row rfl _ _ gb137 75 #[.int .u64 (Go.bits .xor .u64 t142 a1), .int .u64 t143, .int .u64 t144, .int .u64 t145] (0, 0) _ rfl (by refine pk ?_; refine blk_put (cs := #[.int .u64 (Go.bits .xor .u64 t142 a1), .int .u64 t143, .int .u64 t144, .int .u64 0]) ?_ 3 _ rfl; refine pk ?_; refine blk_put (cs := #[.int .u64 (Go.bits .xor .u64 t142 a1), .int .u64 t143, .int .u64 0, .int .u64 0]) ?_ 2 _ rfl; refine pk ?_; refine blk_put (cs := #[.int .u64 (Go.bits .xor .u64 t142 a1), .int .u64 0, .int .u64 0, .int .u64 0]) ?_ 1 _ rfl; refine pk ?_; refine blk_put (cs := #[.int .u64 0, .int .u64 0, .int .u64 0, .int .u64 0]) ?_ 0 _ rfl; refine pk ?_; refine blk_far ?_ NB137_136.out _; refine pk ?_; refine blk_far ?_ NB137_136.out _; refine pk ?_; refine blk_far ?_ NB137_136.out _; refine pk ?_; refine blk_far ?_ NB137_136.out _; refine pk ?_; refine blk_far ?_ NB137_136.out _; refine pk ?_; exact BK137.out) Try.underlying75 rfl (by kernel_rfl)) rfl ?_
 exact ⟨by first | rfl | (simp [errW_none, errW_some] <;> rfl) | (simp [*, errW_none, errW_some] <;> rfl), pb HB⟩

def sip_number.l0 : Nat → ByteArray → Int → Int → Int → Option (Int)
 | 0, _, _, _, _ => none
 | k + 1, x0, x2, x5, x6 => if x6 < x5 then (if 0 ≤ x6 then (if x6 < (x0.size : Int) then (if 0 ≤ (wrap64 (8 * x6)) then (sip_number.l0 k x0 (Go.bits .or .u64 x2 (shl .u64 (IntKind.u64.wrap (bt x0 x6)) (wrap64 (8 * x6)))) x5 (wrap64 (x6 + 1))) else (none)) else (none)) else (none)) else (some x2)
def sip_number.f (k : Nat) (a0 : ByteArray) : Option (Int) := sip_number.l0 k a0 0 (a0.size : Int) 0
theorem sip_number.mono_l : ∀ k, (∀ y0 y1 y2 y3, LeO (sip_number.l0 k y0 y1 y2 y3) (sip_number.l0 (k + 1) y0 y1 y2 y3))
 | 0 => fun _ _ _ _ r h => by simp [sip_number.l0] at h
 | k + 1 => by
  have ih0 := sip_number.mono_l k
  ·intro y0 y1 y2 y3
   unfold sip_number.l0
   repeat' first
   | (with_reducible exact ih0 _ _ _ _)
   | (with_reducible exact LeO.refl _)
   | (with_reducible exact LeO.none _)
   | (with_reducible refine LeO.ite ?_ ?_)
   | (with_reducible refine LeO.bind ?_ (fun _ => ?_))
theorem sip_number.mono : ∀ a0 k, LeO (sip_number.f k a0) (sip_number.f (k + 1) a0) := by
 intro a0 k
 have ih0 := sip_number.mono_l k
 unfold sip_number.f
 repeat' first
   | (with_reducible exact ih0 _ _ _ _)
   | (with_reducible exact LeO.refl _)
   | (with_reducible exact LeO.none _)
   | (with_reducible refine LeO.ite ?_ ?_)
   | (with_reducible refine LeO.bind ?_ (fun _ => ?_))
set_option maxHeartbeats 8000000 in
set_option maxRecDepth 100000 in
theorem sip_number.calls (k : Nat) (a0 : ByteArray) (r : Int) (w : World) (h : sip_number.f k a0 = some r) :
  Calls Try.prog 56 #[.string a0] w fun e w' => e = .returned (.int .u64 r) ∧ Drawn0 w w' := by
 have H : (sip_number.l0 k a0 0 (a0.size : Int) 0) = some r := h;clear h;have H' := am H;clear H
 go_enter Try.func56, Try.ntmps56
 go_wp2
 go_loopg [2, 6] k (fun kq v2 v6 w' => ∃ (x2_1 : Int) (x6_1 : Int), v2 = .int .u64 x2_1 ∧ v6 = .int .i64 x6_1 ∧ Aside0 (sip_number.l0 kq a0 x2_1 (a0.size : Int) x6_1 = some r) ∧ Aside0 (kq ≤ k) ∧ Drawn0 w w')
 case atStart => exact ⟨(0), (0), (by first | rfl | (simp; done) | (simp [*]; done)), (by first | rfl | (simp; done) | (simp [*]; done)), H', ⟨Nat.le_refl _⟩, by repeat (first | exact Drawn0.refl _ | apply Drawn0.step)⟩
 case round =>
  clear H';obtain ⟨x2_1, x6_1, rfl, rfl, HA, HK1, ⟨m1, rfl⟩⟩ := hrel
  cases gk with
  | zero => exact absurd HA.out (by simp [sip_number.l0])
  | succ k1 =>
   have H := HA.out;clear HA
   simp only [sip_number.l0] at H
   by_cases c2 : x6_1 < (a0.size : Int)
   ·rw [if_pos c2] at H;have c2b0 : decide (x6_1 < (a0.size : Int)) = true := decide_eq_true c2;clear c2
    by_cases c3 : 0 ≤ x6_1
    ·rw [if_pos c3] at H;have c3b0 : decide (0 ≤ x6_1) = true := decide_eq_true c3;clear c3
     by_cases c4 : x6_1 < (a0.size : Int)
     ·rw [if_pos c4] at H;have c4b0 : decide (x6_1 < (a0.size : Int)) = true := decide_eq_true c4;clear c4;obtain ⟨ji6, hji6⟩ : ∃ j_ : Int, (wrap64 (8 * x6_1)) = j_ := ⟨_, rfl⟩
      replace H : (if 0 ≤ (ji6) then (sip_number.l0 k1 a0 (Go.bits .or .u64 x2_1 (shl .u64 (IntKind.u64.wrap (bt a0 x6_1)) (ji6))) (a0.size : Int) (wrap64 (x6_1 + 1))) else (none)) = some r := by first | (rw [hji6] at H; exact H) | (simp only [hji6] at H ⊢; exact H)
      have hji6w : (IntKind.i64.wrap (8 * x6_1)) = ji6 := (i64_w _).trans hji6
      by_cases c7 : 0 ≤ (ji6)
      ·rw [if_pos c7] at H;have c7b0 := eq_true c7;have c7b1 : decide (0 ≤ (ji6)) = true := decide_eq_true c7;clear c7;obtain ⟨ji8, hji8⟩ : ∃ j_ : Int, (shl .u64 (IntKind.u64.wrap (bt a0 x6_1)) (ji6)) = j_ := ⟨_, rfl⟩
       replace H : (sip_number.l0 k1 a0 (Go.bits .or .u64 x2_1 (ji8)) (a0.size : Int) (wrap64 (x6_1 + 1))) = some r := by first | (rw [hji8] at H; exact H) | (simp only [hji8] at H ⊢; exact H)
       have hji8_ : (IntKind.u64.wrap ((IntKind.u64.wrap (bt a0 x6_1)) * 2 ^ min (ji6).toNat 64)) = ji8 := hji8;have hji8z : (ji6) ≤ 64 → (IntKind.u64.wrap ((IntKind.u64.wrap (bt a0 x6_1)) * 2 ^ (ji6).toNat)) = ji8 := shl_small hji8;have H' := am H;clear H;have p5 : 0 ≤ (x6_1 : Int) := of_decide_eq_true (by first | (with_reducible assumption) | assumption);have q5 : x6_1 < (a0.size : Int) := of_decide_eq_true (by first | (with_reducible assumption) | assumption);have hx5 := bt_at a0 x6_1;replace p5 := eq_true p5;replace q5 := eq_true q5
       go_wp2
       go_roundg k1
       case measure => have := HK1.out; omega
       case rel => exact ⟨(Go.bits .or .u64 x2_1 (ji8)), (wrap64 (x6_1 + 1)), (by first | rfl | (simp; done) | (simp only [← hji8] <;> (first | rfl | (simp; done) | (simp [show ∀ j_ : Int, shl .u64 0 j_ = 0 from fun j_ => by unfold shl; rw [Int.zero_mul]; decide]; done))) | (simp [*]; done)), (by first | rfl | (simp; done) | (simp [*]; done)), H', ⟨by have := HK1.out; omega⟩, by repeat (first | exact Drawn0.refl _ | apply Drawn0.step)⟩
      ·rw [if_neg c7] at H;exact absurd H (by simp)
     ·rw [if_neg c4] at H;exact absurd H (by simp)
    ·rw [if_neg c3] at H;exact absurd H (by simp)
   ·rw [if_neg c2] at H;have c2b0 : decide (x6_1 < (a0.size : Int)) = false := decide_eq_false c2;clear c2;obtain rfl := Option.some.inj H
    go_wp2
    go_ret
    exact ⟨by first | rfl | (simp; done) | (simp [*]; done), by repeat (first | exact Drawn0.refl _ | apply Drawn0.step)⟩
end Go.Proofs.Ytmfffbafldbihaa.H
