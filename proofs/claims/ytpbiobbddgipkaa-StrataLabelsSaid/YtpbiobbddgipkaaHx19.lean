import Derived.Test.YtpbiobbddgipkaaHx0
namespace Go.Proofs.Ytpbiobbddgipkaa.H
open Go.RowKit Go.Proofs.YtpbiobbddgipkaaW.PrintWords Go.Proofs.YtpbiobbddgipkaaW.PrintLast Go.Proofs.YtpbiobbddgipkaaW.PrintMore Go.Proofs.YtpbiobbddgipkaaW.Sq
attribute [local go_sem] max2_int min2_int max_two min_two max_three min_three max_four min_four
set_option linter.unusedVariables false
set_option linter.unusedSimpArgs false

def samphireref05_left.f (a0 : Int) (a1 : Int) : Option (Int) := if 0 ≤ a1 then (if 0 ≤ (IntKind.u64.wrap (64 - a1)) then (some (Go.bits .or .u64 (shl .u64 a0 a1) (shr .u64 a0 (IntKind.u64.wrap (64 - a1))))) else (none)) else (none)
set_option maxHeartbeats 8000000 in
set_option maxRecDepth 100000 in
theorem samphireref05_left.calls (a0 : Int) (a1 : Int) (r : Int) (w : World) (h : samphireref05_left.f a0 a1 = some r) :
  Calls Try.prog 45 #[.int .u64 a0, .int .u64 a1] w fun e w' => e = .returned (.int .u64 r) ∧ Below w.heap.size w w' := by
 have HB := am (Below.refl w.heap.size w)
 have H : (if 0 ≤ a1 then (if 0 ≤ (IntKind.u64.wrap (64 - a1)) then (some (Go.bits .or .u64 (shl .u64 a0 a1) (shr .u64 a0 (IntKind.u64.wrap (64 - a1))))) else (none)) else (none)) = some r := h
 clear h
 by_cases c3 : 0 ≤ a1
 rotate_left
 ·rw [if_neg c3] at H
  exact absurd H (by simp)
 rw [if_pos c3] at H
 have c3b0 := eq_true c3
 have c3b1 : decide (0 ≤ a1) = true := decide_eq_true c3
 clear c3
 obtain ⟨ji4, hji4⟩ : ∃ j_ : Int, (shl .u64 a0 a1) = j_ := ⟨_, rfl⟩
 replace H : (if 0 ≤ (IntKind.u64.wrap (64 - a1)) then (some (Go.bits .or .u64 (ji4) (shr .u64 a0 (IntKind.u64.wrap (64 - a1))))) else (none)) = some r := by first | (rw [hji4] at H; exact H) | (simp only [hji4] at H ⊢; exact H)
 have hji4_ : (IntKind.u64.wrap (a0 * 2 ^ min a1.toNat 64)) = ji4 := hji4
 have hji4z : a1 ≤ 64 → (IntKind.u64.wrap (a0 * 2 ^ a1.toNat)) = ji4 := shl_small hji4
 obtain ⟨ji5, hji5⟩ : ∃ j_ : Int, (IntKind.u64.wrap (64 - a1)) = j_ := ⟨_, rfl⟩
 replace H : (if 0 ≤ (ji5) then (some (Go.bits .or .u64 (ji4) (shr .u64 a0 (ji5)))) else (none)) = some r := by first | (rw [hji5] at H; exact H) | (simp only [hji5] at H ⊢; exact H)
 by_cases c6 : 0 ≤ (ji5)
 rotate_left
 ·rw [if_neg c6] at H
  exact absurd H (by simp)
 rw [if_pos c6] at H
 have c6b0 := eq_true c6
 have c6b1 : decide (0 ≤ (ji5)) = true := decide_eq_true c6
 clear c6
 obtain ⟨ji7, hji7⟩ : ∃ j_ : Int, (shr .u64 a0 (ji5)) = j_ := ⟨_, rfl⟩
 replace H : (some (Go.bits .or .u64 (ji4) (ji7))) = some r := by first | (rw [hji7] at H; exact H) | (simp only [hji7] at H ⊢; exact H)
 have hji7_ : (a0 / 2 ^ min (ji5).toNat 64) = ji7 := hji7
 have hji7z : (ji5) ≤ 64 → (a0 / 2 ^ (ji5).toNat) = ji7 := shr_small hji7
 obtain rfl := Option.some.inj H
 go_enter Try.func45, Try.ntmps45
 go_wp2
 go_ret
 exact ⟨by first | rfl | (simp [errW_none, errW_some] <;> rfl) | (simp only [← hji4, ← hji5, ← hji7]; first | rfl | (simp [errW_none, errW_some] <;> rfl)) | (simp [*, errW_none, errW_some] <;> rfl), pb HB⟩
def samphireref05_turns.l0 : Nat → Int → Int → Int → Int → Int → Int → Option (Int × Int × Int × Int)
 | 0, _, _, _, _, _, _ => none
 | k + 1, x1, x5, x372000, x372001, x372002, x372003 => if x5 < x1 then ((samphireref05_left.f x372001 13).bind fun t373 => ((samphireref05_left.f (IntKind.u64.wrap (x372000 + x372001)) 32).bind fun t374 => ((samphireref05_left.f x372003 16).bind fun t375 => ((samphireref05_left.f (Go.bits .xor .u64 t375 (IntKind.u64.wrap (x372002 + x372003))) 21).bind fun t376 => ((samphireref05_left.f (Go.bits .xor .u64 t373 (IntKind.u64.wrap (x372000 + x372001))) 17).bind fun t377 => ((samphireref05_left.f (IntKind.u64.wrap ((IntKind.u64.wrap (x372002 + x372003)) + (Go.bits .xor .u64 t373 (IntKind.u64.wrap (x372000 + x372001))))) 32).bind fun t378 => (samphireref05_turns.l0 k x1 (wrap64 (x5 + 1)) (IntKind.u64.wrap (t374 + (Go.bits .xor .u64 t375 (IntKind.u64.wrap (x372002 + x372003))))) (Go.bits .xor .u64 t377 (IntKind.u64.wrap ((IntKind.u64.wrap (x372002 + x372003)) + (Go.bits .xor .u64 t373 (IntKind.u64.wrap (x372000 + x372001)))))) t378 (Go.bits .xor .u64 t376 (IntKind.u64.wrap (t374 + (Go.bits .xor .u64 t375 (IntKind.u64.wrap (x372002 + x372003))))))))))))) else (some (x372000, x372001, x372002, x372003))
def samphireref05_turns.f (k : Nat) (a0_0 : Int) (a0_1 : Int) (a0_2 : Int) (a0_3 : Int) (a1 : Int) : Option (Int × Int × Int × Int) := samphireref05_turns.l0 k a1 0 a0_0 a0_1 a0_2 a0_3
theorem samphireref05_turns.mono_l : ∀ k, (∀ y0 y1 y2 y3 y4 y5, LeO (samphireref05_turns.l0 k y0 y1 y2 y3 y4 y5) (samphireref05_turns.l0 (k + 1) y0 y1 y2 y3 y4 y5))
 | 0 => fun _ _ _ _ _ _ r h => by simp [samphireref05_turns.l0] at h
 | k + 1 => by
  have ih0 := samphireref05_turns.mono_l k
  ·intro y0 y1 y2 y3 y4 y5
   unfold samphireref05_turns.l0
   repeat' first
   | (with_reducible exact ih0 _ _ _ _ _ _)
   | (with_reducible exact LeO.refl _)
   | (with_reducible exact LeO.none _)
   | (with_reducible refine LeO.ite ?_ ?_)
   | (with_reducible refine LeO.bind ?_ (fun _ => ?_))
theorem samphireref05_turns.mono : ∀ a0 a1 a2 a3 a4 k, LeO (samphireref05_turns.f k a0 a1 a2 a3 a4) (samphireref05_turns.f (k + 1) a0 a1 a2 a3 a4) := by
 intro a0 a1 a2 a3 a4 k
 have ih0 := samphireref05_turns.mono_l k
 unfold samphireref05_turns.f
 repeat' first
   | (with_reducible exact ih0 _ _ _ _ _ _)
   | (with_reducible exact LeO.refl _)
   | (with_reducible exact LeO.none _)
   | (with_reducible refine LeO.ite ?_ ?_)
   | (with_reducible refine LeO.bind ?_ (fun _ => ?_))
def samphireref05_turns.T5 : Bool × List (List Nat × List Nat) := (true, [([], []), ([0], [0]), ([1], [1]), ([], []), ([3], [3]), ([2, 4], [2, 4]), ([0, 1, 2, 3, 4, 5], []), ([6, 5, 2, 0, 1, 2, 3, 4, 5], [5, 6])])
def samphireref05_turns.B5 : List Nat := [0, 1, 3, 0, 8, 31, 63, 127]
theorem samphireref05_turns.tab5 : rtab .any (opsOf Try.f30 5) = samphireref05_turns.T5 := by kernel_rfl
theorem samphireref05_turns.bits5 : waitsOk samphireref05_turns.T5.2 samphireref05_turns.B5 = true := by kernel_rfl
def samphireref05_turns.T8 : Bool × List (List Nat × List Nat) := (true, [([], []), ([0], [0]), ([1], [1]), ([], []), ([3], [3]), ([2, 4], [2, 4]), ([0, 1, 2, 3, 4, 5], []), ([6, 5, 2, 0, 1, 2, 3, 4, 5], [5, 6])])
def samphireref05_turns.B8 : List Nat := [0, 1, 3, 0, 8, 31, 63, 127]
theorem samphireref05_turns.tab8 : rtab .any (opsOf Try.f30 8) = samphireref05_turns.T8 := by kernel_rfl
theorem samphireref05_turns.bits8 : waitsOk samphireref05_turns.T8.2 samphireref05_turns.B8 = true := by kernel_rfl
def samphireref05_turns.T10 : Bool × List (List Nat × List Nat) := (true, [([], []), ([0], [0]), ([1], [1]), ([], []), ([3], [3]), ([2, 4], [2, 4]), ([0, 1, 2, 3, 4, 5], []), ([6, 5, 2, 0, 1, 2, 3, 4, 5], [5, 6])])
def samphireref05_turns.B10 : List Nat := [0, 1, 3, 0, 8, 31, 63, 127]
theorem samphireref05_turns.tab10 : rtab .any (opsOf Try.f30 10) = samphireref05_turns.T10 := by kernel_rfl
theorem samphireref05_turns.bits10 : waitsOk samphireref05_turns.T10.2 samphireref05_turns.B10 = true := by kernel_rfl
def samphireref05_turns.T12 : Bool × List (List Nat × List Nat) := (true, [([], []), ([0], [0]), ([1], [1]), ([], []), ([3], [3]), ([2, 4], [2, 4]), ([0, 1, 2, 3, 4, 5], []), ([6, 5, 2, 0, 1, 2, 3, 4, 5], [5, 6])])
def samphireref05_turns.B12 : List Nat := [0, 1, 3, 0, 8, 31, 63, 127]
theorem samphireref05_turns.tab12 : rtab .any (opsOf Try.f30 12) = samphireref05_turns.T12 := by kernel_rfl
theorem samphireref05_turns.bits12 : waitsOk samphireref05_turns.T12.2 samphireref05_turns.B12 = true := by kernel_rfl
set_option maxHeartbeats 8000000 in
set_option maxRecDepth 100000 in
theorem samphireref05_turns.calls (k : Nat) (a0_0 : Int) (a0_1 : Int) (a0_2 : Int) (a0_3 : Int) (a1 : Int) (r1 : Int) (r2 : Int) (r3 : Int) (r4 : Int) (w : World) (h : samphireref05_turns.f k a0_0 a0_1 a0_2 a0_3 a1 = some (r1, r2, r3, r4)) :
  Calls Try.prog 30 #[.agg #[.int .u64 a0_0, .int .u64 a0_1, .int .u64 a0_2, .int .u64 a0_3], .int .i64 a1] w fun e w' => e = .returned (.agg #[.int .u64 r1, .int .u64 r2, .int .u64 r3, .int .u64 r4]) ∧ Below w.heap.size w w' := by
 have hu82 := Try.underlying82
 have HB := am (Below.refl w.heap.size w)
 have H : (samphireref05_turns.l0 k a1 0 a0_0 a0_1 a0_2 a0_3) = some (r1, r2, r3, r4) := h
 clear h
 have H' := am H
 clear H
 go_enter Try.func30, Try.ntmps30
 go_wp2_with (first | ((with_reducible refine gate_dst (N := 2) rfl ?_); refine be 2 #[.int .u64 a0_0, .int .u64 a0_1, .int .u64 a0_2, .int .u64 a0_3] 82 ?_; intro gb371 hg w3 hbox hb; have BK371 := am (hbox); have GW371 := am ((pg hg HB : w.heap.size ≤ gb371)); have GE371 := am ((pg hg HB : w.heap.size ≤ gb371)); replace HB := am (below_step (pb HB) hb); clear hb hbox hg) | ((with_reducible refine gate_dst (N := 4) rfl ?_); refine be 4 #[.int .u64 0, .int .u64 0, .int .u64 0, .int .u64 0] 82 ?_; intro gb372 hg w4 hbox hb; have BK372 := am (hbox); have GW372 := am ((pg hg HB : w.heap.size ≤ gb372)); have GE372 := am ((pg hg HB : w.heap.size ≤ gb372)); replace HB := am (below_step (pb HB) hb); obtain ⟨NB371_372, NB372_371, -, -⟩ := pm hg BK371; replace BK371 := am (blk_below (pk BK371.out) hb); clear hb hbox hg))
 go_loopg [5] k (fun kq v5 w' => ∃ (x5_1 : Int) (x372000_1 : Int) (x372001_1 : Int) (x372002_1 : Int) (x372003_1 : Int), v5 = .int .i64 x5_1 ∧ Aside0 (samphireref05_turns.l0 kq a1 x5_1 x372000_1 x372001_1 x372002_1 x372003_1 = some (r1, r2, r3, r4)) ∧ Aside0 (kq ≤ k) ∧ Aside0 (w'.heap[gb371]? = some (.cells #[.int .u64 x372000_1, .int .u64 x372001_1, .int .u64 x372002_1, .int .u64 x372003_1] 82 (0, 0))) ∧ Aside0 (w'.heap[gb372]? = some (.cells #[.int .u64 0, .int .u64 0, .int .u64 0, .int .u64 0] 82 (0, 0))) ∧ Aside0 (Below w.heap.size w w'))
 case atStart => exact ⟨(0), (a0_0), (a0_1), (a0_2), (a0_3), (by first | rfl | (simp; done) | (simp [*]; done)), H', ⟨Nat.le_refl _⟩, ⟨pk BK371.out⟩, ⟨pk BK372.out⟩, ⟨pb HB⟩⟩
 case round =>
  clear H'
  try clear p2
  try clear c3
  obtain ⟨x5_1, x372000_1, x372001_1, x372002_1, x372003_1, rfl, HA, HK1, BK371, BK372, HB⟩ := hrel
  cases gk with
  | zero => exact absurd HA.out (by simp [samphireref05_turns.l0])
  | succ k1 =>
   have H := HA.out
   clear HA
   simp only [samphireref05_turns.l0] at H
   by_cases c5 : x5_1 < a1
   ·rw [if_pos c5] at H
    have c5b0 : decide (x5_1 < a1) = true := decide_eq_true c5
    clear c5
    replace H := Option.bind_eq_some_iff.mp H
    obtain ⟨t373, A60, H⟩ := H
    try dsimp only at H
    have A6 := am A60
    clear A60
    replace H := Option.bind_eq_some_iff.mp H
    obtain ⟨t374, A70, H⟩ := H
    try dsimp only at H
    have A7 := am A70
    clear A70
    replace H := Option.bind_eq_some_iff.mp H
    obtain ⟨t375, A80, H⟩ := H
    try dsimp only at H
    have A8 := am A80
    clear A80
    replace H := Option.bind_eq_some_iff.mp H
    obtain ⟨t376, A90, H⟩ := H
    try dsimp only at H
    have A9 := am A90
    clear A90
    replace H := Option.bind_eq_some_iff.mp H
    obtain ⟨t377, A100, H⟩ := H
    try dsimp only at H
    have A10 := am A100
    clear A100
    replace H := Option.bind_eq_some_iff.mp H
    obtain ⟨t378, A110, H⟩ := H
    try dsimp only at H
    have A11 := am A110
    clear A110
    have H' := am H
    clear H
    have hnb12 := NB371_372.out
    have hnc12 := NB372_371.out
    obtain ⟨hcz13_0, hcz13_1, hcz13_2, hcz13_3, hfz13_0, hfz13_1, hfz13_2, hfz13_3⟩ := g4 BK371
    try go_wp2
    have n0_ : Aside0 ((wr.setCell ⟨gb371, 0, none⟩ (.int .u64 (IntKind.u64.wrap (x372000_1 + x372001_1)))).heap[gb371]? = some (.cells #[.int .u64 (IntKind.u64.wrap (x372000_1 + x372001_1)), .int .u64 x372001_1, .int .u64 x372002_1, .int .u64 x372003_1] 82 (0, 0))) := ⟨by refine pk ?_; refine blk_put (cs := #[.int .u64 x372000_1, .int .u64 x372001_1, .int .u64 x372002_1, .int .u64 x372003_1]) ?_ 0 _ rfl; refine pk ?_; exact BK371.out⟩
    have n1_ : Aside0 ((wr.setCell ⟨gb371, 0, none⟩ (.int .u64 (IntKind.u64.wrap (x372000_1 + x372001_1)))).heap[gb372]? = some (.cells #[.int .u64 0, .int .u64 0, .int .u64 0, .int .u64 0] 82 (0, 0))) := ⟨by refine pk ?_; refine blk_far ?_ NB372_371.out _; refine pk ?_; exact BK372.out⟩
    have n2_ : Aside0 (Below w.heap.size w (wr.setCell ⟨gb371, 0, none⟩ (.int .u64 (IntKind.u64.wrap (x372000_1 + x372001_1))))) := ⟨pb HB⟩
    (try clear BK371)
    (try clear BK372)
    (try clear HB)
    generalize (wr.setCell ⟨gb371, 0, none⟩ (.int .u64 (IntKind.u64.wrap (x372000_1 + x372001_1)))) = w14 at n0_ n1_ n2_ ⊢
    have BK371 := n0_
    have BK372 := n1_
    have HB := n2_
    clear n0_ n1_ n2_
    replace BK371 := am (blk_drew BK371.out)
    replace BK372 := am (blk_drew BK372.out)
    replace HB := am (below_drew1 HB.out)
    refine start_ (n := 8) (S := fun w' => w'.cell? ⟨gb371, 0, none⟩ = some (.int .u64 (IntKind.u64.wrap (x372000_1 + x372001_1))) ∧ w'.cell? ⟨gb371, 1, none⟩ = some (.int .u64 x372001_1) ∧ w'.cell? ⟨gb371, 2, none⟩ = some (.int .u64 x372002_1) ∧ w'.cell? ⟨gb371, 3, none⟩ = some (.int .u64 x372003_1)) (ds := [7]) #[false, false, false, false, false, false, false, false] (by kernel_rfl) rfl rfl ⟨ce BK371 0, ce BK371 1, ce BK371 2, ce BK371 3⟩ (fun hHeld => ?_); refine with_tabW samphireref05_turns.tab5 samphireref05_turns.bits5 (fun HT_ HW_ => ?_)
    generalize w14.drew = w15 at BK371 BK372 HB hHeld ⊢
    refine pu 0 ?_
    refine pu 3 ?_
    refine ta 1 hHeld ?_
    refine ta 4 hHeld ?_
    refine on1 2 (fun K hK => ?_)
    refine gs Try.func45 #[.int .u64 x372001_1, .int .u64 13] ?_
    with_reducible refine (samphireref05_left.calls x372001_1 13 t373 _ A6.out).mono ?_
    rintro e w16 ⟨rfl, hb⟩
    refine ⟨_, rfl, ?_⟩
    replace BK371 := am (blk_below (pk BK371.out) hb)
    replace BK372 := am (blk_below (pk BK372.out) hb)
    replace HB := am (below_step (pb HB) hb)
    (try clear hb)
    (try clear hb2)
    (try clear hk)
    (try clear hi)
    refine hK.out _ _ ⟨ce BK371 0, ce BK371 1, ce BK371 2, ce BK371 3⟩ (fun hHeld => ?_)
    clear hK K
    refine nm ?_
    refine pu 5 ?_
    refine pu 6 ?_
    refine last_ (i := 7) (N := none) #[true, true, true, true, true, true, true, true] rfl rfl (one_of HT_.out (by kernel_rfl)) (by decide) (fun K hK => ?_)
    have hs17 : w16.cell? ⟨gb371, 1, none⟩ = some (.int .u64 x372001_1) := ce BK371 1
    have hfs17 := blk_frozen BK371.out 1
    have hns17_1 := NB372_371.out
    have hms17_1 := NB371_372.out
    refine skip_ (w1 := ?_) (by rfl) rfl ?_ ?_
    rotate_left
    ·go_simp
     rfl
    refine hK.out _ _ ?_
    clear hK K
    refine done_ (done_of HT_.out (by kernel_rfl)) ?_
    obtain ⟨hcz18_0, hcz18_1, hcz18_2, hcz18_3, hfz18_0, hfz18_1, hfz18_2, hfz18_3⟩ := g4 BK371
    try go_wp2_with (first | ((with_reducible refine gate_callee (f := 45) rfl ?_); refine gl (some 26) Try.func45 #[.int .u64 (IntKind.u64.wrap (x372000_1 + x372001_1)), .int .u64 32] ?_; (with_reducible refine (samphireref05_left.calls (IntKind.u64.wrap (x372000_1 + x372001_1)) 32 t374 _ A7.out).mono ?_); rintro e w19 ⟨rfl, hb⟩; refine ⟨_, rfl, ?_⟩; replace BK371 := am (blk_below (g := gb371) (o := .cells #[.int .u64 (IntKind.u64.wrap (x372000_1 + x372001_1)), .int .u64 (Go.bits .xor .u64 t373 (IntKind.u64.wrap (x372000_1 + x372001_1))), .int .u64 x372002_1, .int .u64 x372003_1] 82 (0, 0)) (by refine pk ?_; refine blk_put (cs := #[.int .u64 (IntKind.u64.wrap (x372000_1 + x372001_1)), .int .u64 x372001_1, .int .u64 x372002_1, .int .u64 x372003_1]) ?_ 1 _ rfl; refine pk ?_; exact BK371.out) hb); replace BK372 := am (blk_below (g := gb372) (o := .cells #[.int .u64 0, .int .u64 0, .int .u64 0, .int .u64 0] 82 (0, 0)) (by refine pk ?_; refine blk_far ?_ NB372_371.out _; refine pk ?_; exact BK372.out) hb); replace HB := am (below_step (pb HB) hb); (try clear hb); (try clear hb2); (try clear hk); (try clear hi); obtain ⟨hcz20_0, hcz20_1, hcz20_2, hcz20_3, hfz20_0, hfz20_1, hfz20_2, hfz20_3⟩ := g4 BK371))
    have n0_ : Aside0 (((w19.setCell ⟨gb371, 0, none⟩ (.int .u64 t374)).setCell ⟨gb371, 2, none⟩ (.int .u64 (IntKind.u64.wrap (x372002_1 + x372003_1)))).heap[gb371]? = some (.cells #[.int .u64 t374, .int .u64 (Go.bits .xor .u64 t373 (IntKind.u64.wrap (x372000_1 + x372001_1))), .int .u64 (IntKind.u64.wrap (x372002_1 + x372003_1)), .int .u64 x372003_1] 82 (0, 0))) := ⟨by refine pk ?_; refine blk_put (cs := #[.int .u64 t374, .int .u64 (Go.bits .xor .u64 t373 (IntKind.u64.wrap (x372000_1 + x372001_1))), .int .u64 x372002_1, .int .u64 x372003_1]) ?_ 2 _ rfl; refine pk ?_; refine blk_put (cs := #[.int .u64 (IntKind.u64.wrap (x372000_1 + x372001_1)), .int .u64 (Go.bits .xor .u64 t373 (IntKind.u64.wrap (x372000_1 + x372001_1))), .int .u64 x372002_1, .int .u64 x372003_1]) ?_ 0 _ rfl; refine pk ?_; exact BK371.out⟩
    have n1_ : Aside0 (((w19.setCell ⟨gb371, 0, none⟩ (.int .u64 t374)).setCell ⟨gb371, 2, none⟩ (.int .u64 (IntKind.u64.wrap (x372002_1 + x372003_1)))).heap[gb372]? = some (.cells #[.int .u64 0, .int .u64 0, .int .u64 0, .int .u64 0] 82 (0, 0))) := ⟨by refine pk ?_; refine blk_far ?_ NB372_371.out _; refine pk ?_; refine blk_far ?_ NB372_371.out _; refine pk ?_; exact BK372.out⟩
    have n2_ : Aside0 (Below w.heap.size w ((w19.setCell ⟨gb371, 0, none⟩ (.int .u64 t374)).setCell ⟨gb371, 2, none⟩ (.int .u64 (IntKind.u64.wrap (x372002_1 + x372003_1))))) := ⟨pb HB⟩
    (try clear BK371)
    (try clear BK372)
    (try clear HB)
    generalize ((w19.setCell ⟨gb371, 0, none⟩ (.int .u64 t374)).setCell ⟨gb371, 2, none⟩ (.int .u64 (IntKind.u64.wrap (x372002_1 + x372003_1)))) = w21 at n0_ n1_ n2_ ⊢
    have BK371 := n0_
    have BK372 := n1_
    have HB := n2_
    clear n0_ n1_ n2_
    replace BK371 := am (blk_drew BK371.out)
    replace BK372 := am (blk_drew BK372.out)
    replace HB := am (below_drew1 HB.out)
    refine start_ (n := 8) (S := fun w' => w'.cell? ⟨gb371, 0, none⟩ = some (.int .u64 t374) ∧ w'.cell? ⟨gb371, 1, none⟩ = some (.int .u64 (Go.bits .xor .u64 t373 (IntKind.u64.wrap (x372000_1 + x372001_1)))) ∧ w'.cell? ⟨gb371, 2, none⟩ = some (.int .u64 (IntKind.u64.wrap (x372002_1 + x372003_1))) ∧ w'.cell? ⟨gb371, 3, none⟩ = some (.int .u64 x372003_1)) (ds := [7]) #[false, false, false, false, false, false, false, false] (by kernel_rfl) rfl rfl ⟨ce BK371 0, ce BK371 1, ce BK371 2, ce BK371 3⟩ (fun hHeld => ?_); refine with_tabW samphireref05_turns.tab8 samphireref05_turns.bits8 (fun HT_ HW_ => ?_)
    generalize w21.drew = w22 at BK371 BK372 HB hHeld ⊢
    refine pu 0 ?_
    refine pu 3 ?_
    refine ta 1 hHeld ?_
    refine ta 4 hHeld ?_
    refine on1 2 (fun K hK => ?_)
    refine gs Try.func45 #[.int .u64 x372003_1, .int .u64 16] ?_
    with_reducible refine (samphireref05_left.calls x372003_1 16 t375 _ A8.out).mono ?_
    rintro e w23 ⟨rfl, hb⟩
    refine ⟨_, rfl, ?_⟩
    replace BK371 := am (blk_below (pk BK371.out) hb)
    replace BK372 := am (blk_below (pk BK372.out) hb)
    replace HB := am (below_step (pb HB) hb)
    (try clear hb)
    (try clear hb2)
    (try clear hk)
    (try clear hi)
    refine hK.out _ _ ⟨ce BK371 0, ce BK371 1, ce BK371 2, ce BK371 3⟩ (fun hHeld => ?_)
    clear hK K
    refine nm ?_
    refine pu 5 ?_
    refine pu 6 ?_
    refine last_ (i := 7) (N := none) #[true, true, true, true, true, true, true, true] rfl rfl (one_of HT_.out (by kernel_rfl)) (by decide) (fun K hK => ?_)
    have hs24 : w23.cell? ⟨gb371, 3, none⟩ = some (.int .u64 x372003_1) := ce BK371 3
    have hfs24 := blk_frozen BK371.out 3
    have hns24_1 := NB372_371.out
    have hms24_1 := NB371_372.out
    refine skip_ (w1 := ?_) (by rfl) rfl ?_ ?_
    rotate_left
    ·go_simp
     rfl
    refine hK.out _ _ ?_
    clear hK K
    refine done_ (done_of HT_.out (by kernel_rfl)) ?_
    obtain ⟨hcz25_0, hcz25_1, hcz25_2, hcz25_3, hfz25_0, hfz25_1, hfz25_2, hfz25_3⟩ := g4 BK371
    try go_wp2
    have n0_ : Aside0 (((w23.setCell ⟨gb371, 3, none⟩ (.int .u64 (Go.bits .xor .u64 t375 (IntKind.u64.wrap (x372002_1 + x372003_1))))).setCell ⟨gb371, 0, none⟩ (.int .u64 (IntKind.u64.wrap (t374 + (Go.bits .xor .u64 t375 (IntKind.u64.wrap (x372002_1 + x372003_1))))))).heap[gb371]? = some (.cells #[.int .u64 (IntKind.u64.wrap (t374 + (Go.bits .xor .u64 t375 (IntKind.u64.wrap (x372002_1 + x372003_1))))), .int .u64 (Go.bits .xor .u64 t373 (IntKind.u64.wrap (x372000_1 + x372001_1))), .int .u64 (IntKind.u64.wrap (x372002_1 + x372003_1)), .int .u64 (Go.bits .xor .u64 t375 (IntKind.u64.wrap (x372002_1 + x372003_1)))] 82 (0, 0))) := ⟨by refine pk ?_; refine blk_put (cs := #[.int .u64 t374, .int .u64 (Go.bits .xor .u64 t373 (IntKind.u64.wrap (x372000_1 + x372001_1))), .int .u64 (IntKind.u64.wrap (x372002_1 + x372003_1)), .int .u64 (Go.bits .xor .u64 t375 (IntKind.u64.wrap (x372002_1 + x372003_1)))]) ?_ 0 _ rfl; refine pk ?_; refine blk_put (cs := #[.int .u64 t374, .int .u64 (Go.bits .xor .u64 t373 (IntKind.u64.wrap (x372000_1 + x372001_1))), .int .u64 (IntKind.u64.wrap (x372002_1 + x372003_1)), .int .u64 x372003_1]) ?_ 3 _ rfl; refine pk ?_; exact BK371.out⟩
    have n1_ : Aside0 (((w23.setCell ⟨gb371, 3, none⟩ (.int .u64 (Go.bits .xor .u64 t375 (IntKind.u64.wrap (x372002_1 + x372003_1))))).setCell ⟨gb371, 0, none⟩ (.int .u64 (IntKind.u64.wrap (t374 + (Go.bits .xor .u64 t375 (IntKind.u64.wrap (x372002_1 + x372003_1))))))).heap[gb372]? = some (.cells #[.int .u64 0, .int .u64 0, .int .u64 0, .int .u64 0] 82 (0, 0))) := ⟨by refine pk ?_; refine blk_far ?_ NB372_371.out _; refine pk ?_; refine blk_far ?_ NB372_371.out _; refine pk ?_; exact BK372.out⟩
    have n2_ : Aside0 (Below w.heap.size w ((w23.setCell ⟨gb371, 3, none⟩ (.int .u64 (Go.bits .xor .u64 t375 (IntKind.u64.wrap (x372002_1 + x372003_1))))).setCell ⟨gb371, 0, none⟩ (.int .u64 (IntKind.u64.wrap (t374 + (Go.bits .xor .u64 t375 (IntKind.u64.wrap (x372002_1 + x372003_1)))))))) := ⟨pb HB⟩
    (try clear BK371)
    (try clear BK372)
    (try clear HB)
    generalize ((w23.setCell ⟨gb371, 3, none⟩ (.int .u64 (Go.bits .xor .u64 t375 (IntKind.u64.wrap (x372002_1 + x372003_1))))).setCell ⟨gb371, 0, none⟩ (.int .u64 (IntKind.u64.wrap (t374 + (Go.bits .xor .u64 t375 (IntKind.u64.wrap (x372002_1 + x372003_1))))))) = w26 at n0_ n1_ n2_ ⊢
    have BK371 := n0_
    have BK372 := n1_
    have HB := n2_
    clear n0_ n1_ n2_
    replace BK371 := am (blk_drew BK371.out)
    replace BK372 := am (blk_drew BK372.out)
    replace HB := am (below_drew1 HB.out)
    refine start_ (n := 8) (S := fun w' => w'.cell? ⟨gb371, 0, none⟩ = some (.int .u64 (IntKind.u64.wrap (t374 + (Go.bits .xor .u64 t375 (IntKind.u64.wrap (x372002_1 + x372003_1)))))) ∧ w'.cell? ⟨gb371, 1, none⟩ = some (.int .u64 (Go.bits .xor .u64 t373 (IntKind.u64.wrap (x372000_1 + x372001_1)))) ∧ w'.cell? ⟨gb371, 2, none⟩ = some (.int .u64 (IntKind.u64.wrap (x372002_1 + x372003_1))) ∧ w'.cell? ⟨gb371, 3, none⟩ = some (.int .u64 (Go.bits .xor .u64 t375 (IntKind.u64.wrap (x372002_1 + x372003_1))))) (ds := [7]) #[false, false, false, false, false, false, false, false] (by kernel_rfl) rfl rfl ⟨ce BK371 0, ce BK371 1, ce BK371 2, ce BK371 3⟩ (fun hHeld => ?_); refine with_tabW samphireref05_turns.tab10 samphireref05_turns.bits10 (fun HT_ HW_ => ?_)
    generalize w26.drew = w27 at BK371 BK372 HB hHeld ⊢
    refine pu 0 ?_
    refine pu 3 ?_
    refine ta 1 hHeld ?_
    refine ta 4 hHeld ?_
    refine on1 2 (fun K hK => ?_)
    refine gs Try.func45 #[.int .u64 (Go.bits .xor .u64 t375 (IntKind.u64.wrap (x372002_1 + x372003_1))), .int .u64 21] ?_
    with_reducible refine (samphireref05_left.calls (Go.bits .xor .u64 t375 (IntKind.u64.wrap (x372002_1 + x372003_1))) 21 t376 _ A9.out).mono ?_
    rintro e w28 ⟨rfl, hb⟩
    refine ⟨_, rfl, ?_⟩
    replace BK371 := am (blk_below (pk BK371.out) hb)
    replace BK372 := am (blk_below (pk BK372.out) hb)
    replace HB := am (below_step (pb HB) hb)
    (try clear hb)
    (try clear hb2)
    (try clear hk)
    (try clear hi)
    refine hK.out _ _ ⟨ce BK371 0, ce BK371 1, ce BK371 2, ce BK371 3⟩ (fun hHeld => ?_)
    clear hK K
    refine nm ?_
    refine pu 5 ?_
    refine pu 6 ?_
    refine last_ (i := 7) (N := none) #[true, true, true, true, true, true, true, true] rfl rfl (one_of HT_.out (by kernel_rfl)) (by decide) (fun K hK => ?_)
    have hs29 : w28.cell? ⟨gb371, 3, none⟩ = some (.int .u64 (Go.bits .xor .u64 t375 (IntKind.u64.wrap (x372002_1 + x372003_1)))) := ce BK371 3
    have hfs29 := blk_frozen BK371.out 3
    have hns29_1 := NB372_371.out
    have hms29_1 := NB371_372.out
    refine skip_ (w1 := ?_) (by rfl) rfl ?_ ?_
    rotate_left
    ·go_simp
     rfl
    refine hK.out _ _ ?_
    clear hK K
    refine done_ (done_of HT_.out (by kernel_rfl)) ?_
    obtain ⟨hcz30_0, hcz30_1, hcz30_2, hcz30_3, hfz30_0, hfz30_1, hfz30_2, hfz30_3⟩ := g4 BK371
    try go_wp2
    have n0_ : Aside0 (((w28.setCell ⟨gb371, 3, none⟩ (.int .u64 (Go.bits .xor .u64 t376 (IntKind.u64.wrap (t374 + (Go.bits .xor .u64 t375 (IntKind.u64.wrap (x372002_1 + x372003_1)))))))).setCell ⟨gb371, 2, none⟩ (.int .u64 (IntKind.u64.wrap ((IntKind.u64.wrap (x372002_1 + x372003_1)) + (Go.bits .xor .u64 t373 (IntKind.u64.wrap (x372000_1 + x372001_1))))))).heap[gb371]? = some (.cells #[.int .u64 (IntKind.u64.wrap (t374 + (Go.bits .xor .u64 t375 (IntKind.u64.wrap (x372002_1 + x372003_1))))), .int .u64 (Go.bits .xor .u64 t373 (IntKind.u64.wrap (x372000_1 + x372001_1))), .int .u64 (IntKind.u64.wrap ((IntKind.u64.wrap (x372002_1 + x372003_1)) + (Go.bits .xor .u64 t373 (IntKind.u64.wrap (x372000_1 + x372001_1))))), .int .u64 (Go.bits .xor .u64 t376 (IntKind.u64.wrap (t374 + (Go.bits .xor .u64 t375 (IntKind.u64.wrap (x372002_1 + x372003_1))))))] 82 (0, 0))) := ⟨by refine pk ?_; refine blk_put (cs := #[.int .u64 (IntKind.u64.wrap (t374 + (Go.bits .xor .u64 t375 (IntKind.u64.wrap (x372002_1 + x372003_1))))), .int .u64 (Go.bits .xor .u64 t373 (IntKind.u64.wrap (x372000_1 + x372001_1))), .int .u64 (IntKind.u64.wrap (x372002_1 + x372003_1)), .int .u64 (Go.bits .xor .u64 t376 (IntKind.u64.wrap (t374 + (Go.bits .xor .u64 t375 (IntKind.u64.wrap (x372002_1 + x372003_1))))))]) ?_ 2 _ rfl; refine pk ?_; refine blk_put (cs := #[.int .u64 (IntKind.u64.wrap (t374 + (Go.bits .xor .u64 t375 (IntKind.u64.wrap (x372002_1 + x372003_1))))), .int .u64 (Go.bits .xor .u64 t373 (IntKind.u64.wrap (x372000_1 + x372001_1))), .int .u64 (IntKind.u64.wrap (x372002_1 + x372003_1)), .int .u64 (Go.bits .xor .u64 t375 (IntKind.u64.wrap (x372002_1 + x372003_1)))]) ?_ 3 _ rfl; refine pk ?_; exact BK371.out⟩
    have n1_ : Aside0 (((w28.setCell ⟨gb371, 3, none⟩ (.int .u64 (Go.bits .xor .u64 t376 (IntKind.u64.wrap (t374 + (Go.bits .xor .u64 t375 (IntKind.u64.wrap (x372002_1 + x372003_1)))))))).setCell ⟨gb371, 2, none⟩ (.int .u64 (IntKind.u64.wrap ((IntKind.u64.wrap (x372002_1 + x372003_1)) + (Go.bits .xor .u64 t373 (IntKind.u64.wrap (x372000_1 + x372001_1))))))).heap[gb372]? = some (.cells #[.int .u64 0, .int .u64 0, .int .u64 0, .int .u64 0] 82 (0, 0))) := ⟨by refine pk ?_; refine blk_far ?_ NB372_371.out _; refine pk ?_; refine blk_far ?_ NB372_371.out _; refine pk ?_; exact BK372.out⟩
    have n2_ : Aside0 (Below w.heap.size w ((w28.setCell ⟨gb371, 3, none⟩ (.int .u64 (Go.bits .xor .u64 t376 (IntKind.u64.wrap (t374 + (Go.bits .xor .u64 t375 (IntKind.u64.wrap (x372002_1 + x372003_1)))))))).setCell ⟨gb371, 2, none⟩ (.int .u64 (IntKind.u64.wrap ((IntKind.u64.wrap (x372002_1 + x372003_1)) + (Go.bits .xor .u64 t373 (IntKind.u64.wrap (x372000_1 + x372001_1)))))))) := ⟨pb HB⟩
    (try clear BK371)
    (try clear BK372)
    (try clear HB)
    generalize ((w28.setCell ⟨gb371, 3, none⟩ (.int .u64 (Go.bits .xor .u64 t376 (IntKind.u64.wrap (t374 + (Go.bits .xor .u64 t375 (IntKind.u64.wrap (x372002_1 + x372003_1)))))))).setCell ⟨gb371, 2, none⟩ (.int .u64 (IntKind.u64.wrap ((IntKind.u64.wrap (x372002_1 + x372003_1)) + (Go.bits .xor .u64 t373 (IntKind.u64.wrap (x372000_1 + x372001_1))))))) = w31 at n0_ n1_ n2_ ⊢
    have BK371 := n0_
    have BK372 := n1_
    have HB := n2_
    clear n0_ n1_ n2_
    replace BK371 := am (blk_drew BK371.out)
    replace BK372 := am (blk_drew BK372.out)
    replace HB := am (below_drew1 HB.out)
    refine start_ (n := 8) (S := fun w' => w'.cell? ⟨gb371, 0, none⟩ = some (.int .u64 (IntKind.u64.wrap (t374 + (Go.bits .xor .u64 t375 (IntKind.u64.wrap (x372002_1 + x372003_1)))))) ∧ w'.cell? ⟨gb371, 1, none⟩ = some (.int .u64 (Go.bits .xor .u64 t373 (IntKind.u64.wrap (x372000_1 + x372001_1)))) ∧ w'.cell? ⟨gb371, 2, none⟩ = some (.int .u64 (IntKind.u64.wrap ((IntKind.u64.wrap (x372002_1 + x372003_1)) + (Go.bits .xor .u64 t373 (IntKind.u64.wrap (x372000_1 + x372001_1)))))) ∧ w'.cell? ⟨gb371, 3, none⟩ = some (.int .u64 (Go.bits .xor .u64 t376 (IntKind.u64.wrap (t374 + (Go.bits .xor .u64 t375 (IntKind.u64.wrap (x372002_1 + x372003_1)))))))) (ds := [7]) #[false, false, false, false, false, false, false, false] (by kernel_rfl) rfl rfl ⟨ce BK371 0, ce BK371 1, ce BK371 2, ce BK371 3⟩ (fun hHeld => ?_); refine with_tabW samphireref05_turns.tab12 samphireref05_turns.bits12 (fun HT_ HW_ => ?_)
    generalize w31.drew = w32 at BK371 BK372 HB hHeld ⊢
    refine pu 0 ?_
    refine pu 3 ?_
    refine ta 1 hHeld ?_
    refine ta 4 hHeld ?_
    refine on1 2 (fun K hK => ?_)
    refine gs Try.func45 #[.int .u64 (Go.bits .xor .u64 t373 (IntKind.u64.wrap (x372000_1 + x372001_1))), .int .u64 17] ?_
    with_reducible refine (samphireref05_left.calls (Go.bits .xor .u64 t373 (IntKind.u64.wrap (x372000_1 + x372001_1))) 17 t377 _ A10.out).mono ?_
    rintro e w33 ⟨rfl, hb⟩
    refine ⟨_, rfl, ?_⟩
    replace BK371 := am (blk_below (pk BK371.out) hb)
    replace BK372 := am (blk_below (pk BK372.out) hb)
    replace HB := am (below_step (pb HB) hb)
    (try clear hb)
    (try clear hb2)
    (try clear hk)
    (try clear hi)
    refine hK.out _ _ ⟨ce BK371 0, ce BK371 1, ce BK371 2, ce BK371 3⟩ (fun hHeld => ?_)
    clear hK K
    refine nm ?_
    refine pu 5 ?_
    refine pu 6 ?_
    refine last_ (i := 7) (N := none) #[true, true, true, true, true, true, true, true] rfl rfl (one_of HT_.out (by kernel_rfl)) (by decide) (fun K hK => ?_)
    have hs34 : w33.cell? ⟨gb371, 1, none⟩ = some (.int .u64 (Go.bits .xor .u64 t373 (IntKind.u64.wrap (x372000_1 + x372001_1)))) := ce BK371 1
    have hfs34 := blk_frozen BK371.out 1
    have hns34_1 := NB372_371.out
    have hms34_1 := NB371_372.out
    refine skip_ (w1 := ?_) (by rfl) rfl ?_ ?_
    rotate_left
    ·go_simp
     rfl
    refine hK.out _ _ ?_
    clear hK K
    refine done_ (done_of HT_.out (by kernel_rfl)) ?_
    obtain ⟨hcz35_0, hcz35_1, hcz35_2, hcz35_3, hfz35_0, hfz35_1, hfz35_2, hfz35_3⟩ := g4 BK371
    try go_wp2_with (first | ((with_reducible refine gate_callee (f := 45) rfl ?_); refine gl (some 69) Try.func45 #[.int .u64 (IntKind.u64.wrap ((IntKind.u64.wrap (x372002_1 + x372003_1)) + (Go.bits .xor .u64 t373 (IntKind.u64.wrap (x372000_1 + x372001_1))))), .int .u64 32] ?_; (with_reducible refine (samphireref05_left.calls (IntKind.u64.wrap ((IntKind.u64.wrap (x372002_1 + x372003_1)) + (Go.bits .xor .u64 t373 (IntKind.u64.wrap (x372000_1 + x372001_1))))) 32 t378 _ A11.out).mono ?_); rintro e w36 ⟨rfl, hb⟩; refine ⟨_, rfl, ?_⟩; replace BK371 := am (blk_below (g := gb371) (o := .cells #[.int .u64 (IntKind.u64.wrap (t374 + (Go.bits .xor .u64 t375 (IntKind.u64.wrap (x372002_1 + x372003_1))))), .int .u64 (Go.bits .xor .u64 t377 (IntKind.u64.wrap ((IntKind.u64.wrap (x372002_1 + x372003_1)) + (Go.bits .xor .u64 t373 (IntKind.u64.wrap (x372000_1 + x372001_1)))))), .int .u64 (IntKind.u64.wrap ((IntKind.u64.wrap (x372002_1 + x372003_1)) + (Go.bits .xor .u64 t373 (IntKind.u64.wrap (x372000_1 + x372001_1))))), .int .u64 (Go.bits .xor .u64 t376 (IntKind.u64.wrap (t374 + (Go.bits .xor .u64 t375 (IntKind.u64.wrap (x372002_1 + x372003_1))))))] 82 (0, 0)) (by refine pk ?_; refine blk_put (cs := #[.int .u64 (IntKind.u64.wrap (t374 + (Go.bits .xor .u64 t375 (IntKind.u64.wrap (x372002_1 + x372003_1))))), .int .u64 (Go.bits .xor .u64 t373 (IntKind.u64.wrap (x372000_1 + x372001_1))), .int .u64 (IntKind.u64.wrap ((IntKind.u64.wrap (x372002_1 + x372003_1)) + (Go.bits .xor .u64 t373 (IntKind.u64.wrap (x372000_1 + x372001_1))))), .int .u64 (Go.bits .xor .u64 t376 (IntKind.u64.wrap (t374 + (Go.bits .xor .u64 t375 (IntKind.u64.wrap (x372002_1 + x372003_1))))))]) ?_ 1 _ rfl; refine pk ?_; exact BK371.out) hb); replace BK372 := am (blk_below (g := gb372) (o := .cells #[.int .u64 0, .int .u64 0, .int .u64 0, .int .u64 0] 82 (0, 0)) (by refine pk ?_; refine blk_far ?_ NB372_371.out _; refine pk ?_; exact BK372.out) hb); replace HB := am (below_step (pb HB) hb); (try clear hb); (try clear hb2); (try clear hk); (try clear hi); obtain ⟨hcz37_0, hcz37_1, hcz37_2, hcz37_3, hfz37_0, hfz37_1, hfz37_2, hfz37_3⟩ := g4 BK371))
    go_roundg k1
    case measure => have := HK1.out; omega
    case rel => exact ⟨(wrap64 (x5_1 + 1)), (IntKind.u64.wrap (t374 + (Go.bits .xor .u64 t375 (IntKind.u64.wrap (x372002_1 + x372003_1))))), (Go.bits .xor .u64 t377 (IntKind.u64.wrap ((IntKind.u64.wrap (x372002_1 + x372003_1)) + (Go.bits .xor .u64 t373 (IntKind.u64.wrap (x372000_1 + x372001_1)))))), (t378), (Go.bits .xor .u64 t376 (IntKind.u64.wrap (t374 + (Go.bits .xor .u64 t375 (IntKind.u64.wrap (x372002_1 + x372003_1)))))), (by first | rfl | (simp; done) | (simp [*]; done)), H', ⟨by have := HK1.out; omega⟩, ⟨by refine pk ?_; refine blk_put (cs := #[.int .u64 (IntKind.u64.wrap (t374 + (Go.bits .xor .u64 t375 (IntKind.u64.wrap (x372002_1 + x372003_1))))), .int .u64 (Go.bits .xor .u64 t377 (IntKind.u64.wrap ((IntKind.u64.wrap (x372002_1 + x372003_1)) + (Go.bits .xor .u64 t373 (IntKind.u64.wrap (x372000_1 + x372001_1)))))), .int .u64 (IntKind.u64.wrap ((IntKind.u64.wrap (x372002_1 + x372003_1)) + (Go.bits .xor .u64 t373 (IntKind.u64.wrap (x372000_1 + x372001_1))))), .int .u64 (Go.bits .xor .u64 t376 (IntKind.u64.wrap (t374 + (Go.bits .xor .u64 t375 (IntKind.u64.wrap (x372002_1 + x372003_1))))))]) ?_ 2 _ rfl; refine pk ?_; exact BK371.out⟩, ⟨by refine pk ?_; refine blk_far ?_ NB372_371.out _; refine pk ?_; exact BK372.out⟩, ⟨pb HB⟩⟩
   ·rw [if_neg c5] at H
    have c5b0 : decide (x5_1 < a1) = false := decide_eq_false c5
    clear c5
    simp only [Option.some.injEq, Prod.mk.injEq] at H
    obtain ⟨rfl, rfl, rfl, rfl⟩ := H
    have hnb38 := NB371_372.out
    have hnc38 := NB372_371.out
    obtain ⟨hcz39_0, hcz39_1, hcz39_2, hcz39_3, hfz39_0, hfz39_1, hfz39_2, hfz39_3⟩ := g4 BK371
    obtain ⟨hcz40_0, hcz40_1, hcz40_2, hcz40_3, hfz40_0, hfz40_1, hfz40_2, hfz40_3⟩ := g4 BK372
    go_wp2
    refine bodyPost_ret (results_cell_row rfl _ _ gb372 82 #[.int .u64 x372000_1, .int .u64 x372001_1, .int .u64 x372002_1, .int .u64 x372003_1] (0, 0) _ rfl (by refine pk ?_; refine blk_put (cs := #[.int .u64 x372000_1, .int .u64 x372001_1, .int .u64 x372002_1, .int .u64 0]) ?_ 3 _ rfl; refine pk ?_; refine blk_put (cs := #[.int .u64 x372000_1, .int .u64 x372001_1, .int .u64 0, .int .u64 0]) ?_ 2 _ rfl; refine pk ?_; refine blk_put (cs := #[.int .u64 x372000_1, .int .u64 0, .int .u64 0, .int .u64 0]) ?_ 1 _ rfl; refine pk ?_; refine blk_put (cs := #[.int .u64 0, .int .u64 0, .int .u64 0, .int .u64 0]) ?_ 0 _ rfl; refine pk ?_; exact BK372.out) Try.underlying82 rfl (by kernel_rfl)) rfl ?_
    exact ⟨by first | rfl | (simp [errW_none, errW_some] <;> rfl) | (simp [*, errW_none, errW_some] <;> rfl), pb HB⟩
end Go.Proofs.Ytpbiobbddgipkaa.H
