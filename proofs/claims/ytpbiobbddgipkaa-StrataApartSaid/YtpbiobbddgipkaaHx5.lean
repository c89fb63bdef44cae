import Derived.Test.YtpbiobbddgipkaaHx0
import Derived.Test.YtpbiobbddgipkaaHx4
namespace Go.Proofs.Ytpbiobbddgipkaa.H
open Go.RowKit Go.Proofs.YtpbiobbddgipkaaW.PrintWords Go.Proofs.YtpbiobbddgipkaaW.PrintLast Go.Proofs.YtpbiobbddgipkaaW.PrintMore Go.Proofs.YtpbiobbddgipkaaW.Sq
attribute [local go_sem] max2_int min2_int max_two min_two max_three min_three max_four min_four
set_option linter.unusedVariables false
set_option linter.unusedSimpArgs false

def sip_Write.l0 : Nat → Int → Int → Int → Int → ByteArray → Int → Option (Int × Int × Int × Int × ByteArray × Int)
 | 0, _, _, _, _, _, _ => none
 | k + 1, x136000, x136001, x136002, x136003, x136004, x136005 => if (x136004.size : Int) ≥ 8 then (if 0 ≤ 8 then (if 8 ≤ (x136004.size : Int) then ((sip_number.f k (x136004.extract 0 8)).bind fun t138 => ((sip_take.f x136000 x136001 x136002 x136003 t138).bind fun bt139 => (sip_Write.l0 k bt139.1 bt139.2.1 bt139.2.2.1 bt139.2.2.2 (x136004.extract 8 x136004.size) x136005))) else (none)) else (none)) else (some (x136000, x136001, x136002, x136003, x136004, x136005))
def sip_Write.f (k : Nat) (a0_0 : Int) (a0_1 : Int) (a0_2 : Int) (a0_3 : Int) (a0_4 : ByteArray) (a0_5 : Int) (a1 : ByteArray) : Option (Int × Int × Int × Int × ByteArray × Int) := (sip_right.f a0_0 a0_1 a0_2 a0_3 a0_4 a0_5).bind fun t137 => (if t137 = true then (if a0_4.size + a1.size ≤ 9223372036854775807 then (sip_Write.l0 k a0_0 a0_1 a0_2 a0_3 (a0_4 ++ a1) (wrap64 (a0_5 + (a1.size : Int)))) else (none)) else (some (a0_0, a0_1, a0_2, a0_3, a0_4, a0_5)))
theorem sip_Write.mono_l : ∀ k, (∀ y0 y1 y2 y3 y4 y5, LeO (sip_Write.l0 k y0 y1 y2 y3 y4 y5) (sip_Write.l0 (k + 1) y0 y1 y2 y3 y4 y5))
 | 0 => fun _ _ _ _ _ _ r h => by simp [sip_Write.l0] at h
 | k + 1 => by
  have ih0 := sip_Write.mono_l k
  ·intro y0 y1 y2 y3 y4 y5
   unfold sip_Write.l0
   repeat' first
   | (with_reducible exact ih0 _ _ _ _ _ _)
   | (with_reducible exact sip_number.mono _ _)
   | (with_reducible exact LeO.refl _)
   | (with_reducible exact LeO.none _)
   | (with_reducible refine LeO.ite ?_ ?_)
   | (with_reducible refine LeO.bind ?_ (fun _ => ?_))
theorem sip_Write.mono : ∀ a0 a1 a2 a3 a4 a5 a6 k, LeO (sip_Write.f k a0 a1 a2 a3 a4 a5 a6) (sip_Write.f (k + 1) a0 a1 a2 a3 a4 a5 a6) := by
 intro a0 a1 a2 a3 a4 a5 a6 k
 have ih0 := sip_Write.mono_l k
 unfold sip_Write.f
 repeat' first
   | (with_reducible exact ih0 _ _ _ _ _ _)
   | (with_reducible exact sip_number.mono _ _)
   | (with_reducible exact LeO.refl _)
   | (with_reducible exact LeO.none _)
   | (with_reducible refine LeO.ite ?_ ?_)
   | (with_reducible refine LeO.bind ?_ (fun _ => ?_))
def sip_Write.T6 : Bool × List (List Nat × List Nat) := (true, [([], []), ([0], [0]), ([], []), ([2], [2]), ([3], [3]), ([4], [4]), ([1, 5, 5], [1, 5]), ([0, 1, 2, 3, 4, 5, 6], []), ([7, 6, 6, 0, 1, 2, 3, 4, 5, 6], [6, 7])])
def sip_Write.B6 : List Nat := [0, 1, 0, 4, 12, 28, 63, 127, 255]
theorem sip_Write.tab6 : rtab .any (opsOf Try.f52 6) = sip_Write.T6 := by kernel_rfl
theorem sip_Write.bits6 : waitsOk sip_Write.T6.2 sip_Write.B6 = true := by kernel_rfl
set_option maxHeartbeats 8000000 in
set_option maxRecDepth 100000 in
theorem sip_Write.calls (k : Nat) (a0_0 : Int) (a0_1 : Int) (a0_2 : Int) (a0_3 : Int) (a0_4 : ByteArray) (a0_5 : Int) (a1 : ByteArray) (r1 : Int) (r2 : Int) (r3 : Int) (r4 : Int) (r5 : ByteArray) (r6 : Int) (w : World) (h : sip_Write.f k a0_0 a0_1 a0_2 a0_3 a0_4 a0_5 a1 = some (r1, r2, r3, r4, r5, r6)) :
  Calls Try.prog 52 #[.agg #[.int .u64 a0_0, .int .u64 a0_1, .int .u64 a0_2, .int .u64 a0_3, .string a0_4, .int .i64 a0_5], .string a1] w fun e w' => e = .returned (.agg #[.int .u64 r1, .int .u64 r2, .int .u64 r3, .int .u64 r4, .string r5, .int .i64 r6]) ∧ Below w.heap.size w w' := by
 have hu109 := Try.underlying109
 have hu82 := Try.underlying82
 have HB := am (Below.refl w.heap.size w)
 have H : ((sip_right.f a0_0 a0_1 a0_2 a0_3 a0_4 a0_5).bind fun t137 => (if t137 = true then (if a0_4.size + a1.size ≤ 9223372036854775807 then (sip_Write.l0 k a0_0 a0_1 a0_2 a0_3 (a0_4 ++ a1) (wrap64 (a0_5 + (a1.size : Int)))) else (none)) else (some (a0_0, a0_1, a0_2, a0_3, a0_4, a0_5)))) = some (r1, r2, r3, r4, r5, r6) := h
 clear h
 replace H := Option.bind_eq_some_iff.mp H
 obtain ⟨t137, A30, H⟩ := H
 try dsimp only at H
 have A3 := am A30
 clear A30
 by_cases c4 : t137 = true
 rotate_left
 ·replace c4 := Bool.eq_false_iff.mpr c4
  subst c4
  have H1 : (some (a0_0, a0_1, a0_2, a0_3, a0_4, a0_5)) = some (r1, r2, r3, r4, r5, r6) := by rw [if_neg (show ¬ (false = true) by decide)] at H; exact H
  clear H
  have H := H1
  clear H1
  simp only [Option.some.injEq, Prod.mk.injEq] at H
  obtain ⟨rfl, rfl, rfl, rfl, rfl, rfl⟩ := H
  go_enter Try.func52, Try.ntmps52
  go_wp2_with (first | ((with_reducible refine gate_dst (N := 2) rfl ?_); refine be 2 #[.int .u64 a0_0, .int .u64 a0_1, .int .u64 a0_2, .int .u64 a0_3, .string a0_4, .int .i64 a0_5] 109 ?_; intro gb135 hg w30 hbox hb; have BK135 := am (hbox); have GW135 := am ((pg hg HB : w.heap.size ≤ gb135)); have GE135 := am ((pg hg HB : w.heap.size ≤ gb135)); replace HB := am (below_step (pb HB) hb); clear hb hbox hg) | ((with_reducible refine gate_dst (N := 4) rfl ?_); refine be 4 #[.int .u64 0, .int .u64 0, .int .u64 0, .int .u64 0, .string (⟨#[]⟩ : ByteArray), .int .i64 0] 109 ?_; intro gb136 hg w31 hbox hb; have BK136 := am (hbox); have GW136 := am ((pg hg HB : w.heap.size ≤ gb136)); have GE136 := am ((pg hg HB : w.heap.size ≤ gb136)); replace HB := am (below_step (pb HB) hb); obtain ⟨NB135_136, NB136_135, hnb32, hnc32⟩ := pm hg BK135; replace BK135 := am (blk_below (pk BK135.out) hb); clear hb hbox hg; obtain ⟨hcz33_0, hcz33_1, hcz33_2, hcz33_3, hcz33_4, hcz33_5, hfz33_0, hfz33_1, hfz33_2, hfz33_3, hfz33_4, hfz33_5⟩ := g6 BK135) | ((with_reducible refine gate_callee (f := 66) rfl ?_); refine gl (some 6) Try.func66 #[.agg #[.int .u64 a0_0, .int .u64 a0_1, .int .u64 a0_2, .int .u64 a0_3, .string a0_4, .int .i64 a0_5]] ?_; (with_reducible refine (sip_right.calls a0_0 a0_1 a0_2 a0_3 a0_4 a0_5 false _ A3.out).mono ?_); rintro e w34 ⟨rfl, hb⟩; refine ⟨_, rfl, ?_⟩; replace BK135 := am (blk_below (pk BK135.out) hb); replace BK136 := am (blk_below (pk BK136.out) hb); replace HB := am (below_step (pb HB) hb); (try clear hb); (try clear hb2); (try clear hk); (try clear hi); obtain ⟨hcz35_0, hcz35_1, hcz35_2, hcz35_3, hcz35_4, hcz35_5, hfz35_0, hfz35_1, hfz35_2, hfz35_3, hfz35_4, hfz35_5⟩ := g6 BK135; obtain ⟨hcz36_0, hcz36_1, hcz36_2, hcz36_3, hcz36_4, hcz36_5, hfz36_0, hfz36_1, hfz36_2, hfz36_3, hfz36_4, hfz36_5⟩ := g6 BK136))
  refine bodyPost_ret (results_cell_row rfl _ _ gb136 109 #[.int .u64 a0_0, .int .u64 a0_1, .int .u64 a0_2, .int .u64 a0_3, .string a0_4, .int .i64 a0_5] (0, 0) _ rfl (by refine pk ?_; refine blk_put (cs := #[.int .u64 a0_0, .int .u64 a0_1, .int .u64 a0_2, .int .u64 a0_3, .string a0_4, .int .i64 0]) ?_ 5 _ rfl; refine pk ?_; refine blk_put (cs := #[.int .u64 a0_0, .int .u64 a0_1, .int .u64 a0_2, .int .u64 a0_3, .string (⟨#[]⟩ : ByteArray), .int .i64 0]) ?_ 4 _ rfl; refine pk ?_; refine blk_put (cs := #[.int .u64 a0_0, .int .u64 a0_1, .int .u64 a0_2, .int .u64 0, .string (⟨#[]⟩ : ByteArray), .int .i64 0]) ?_ 3 _ rfl; refine pk ?_; refine blk_put (cs := #[.int .u64 a0_0, .int .u64 a0_1, .int .u64 0, .int .u64 0, .string (⟨#[]⟩ : ByteArray), .int .i64 0]) ?_ 2 _ rfl; refine pk ?_; refine blk_put (cs := #[.int .u64 a0_0, .int .u64 0, .int .u64 0, .int .u64 0, .string (⟨#[]⟩ : ByteArray), .int .i64 0]) ?_ 1 _ rfl; refine pk ?_; refine blk_put (cs := #[.int .u64 0, .int .u64 0, .int .u64 0, .int .u64 0, .string (⟨#[]⟩ : ByteArray), .int .i64 0]) ?_ 0 _ rfl; refine pk ?_; exact BK136.out) Try.underlying109 rfl (by kernel_rfl)) rfl ?_
  exact ⟨by first | rfl | (simp [errW_none, errW_some] <;> rfl) | (simp [*, errW_none, errW_some] <;> rfl), pb HB⟩
 subst c4
 have H1 : (if a0_4.size + a1.size ≤ 9223372036854775807 then (sip_Write.l0 k a0_0 a0_1 a0_2 a0_3 (a0_4 ++ a1) (wrap64 (a0_5 + (a1.size : Int)))) else (none)) = some (r1, r2, r3, r4, r5, r6) := by rw [if_pos rfl] at H; exact H
 clear H
 have H := H1
 clear H1
 by_cases c5 : a0_4.size + a1.size ≤ 9223372036854775807
 rotate_left
 ·rw [if_neg c5] at H
  exact absurd H (by simp)
 rw [if_pos c5] at H
 have c5b0 := eq_true c5
 have c5b1 : decide (a0_4.size + a1.size ≤ 9223372036854775807) = true := decide_eq_true c5
 try have c5b2 : (9223372036854775807 < a0_4.size + a1.size) = False := eq_false (Nat.not_lt.2 c5)
 have H' := am H
 clear H
 go_enter Try.func52, Try.ntmps52
 go_wp2_with (first | ((with_reducible refine gate_dst (N := 2) rfl ?_); refine be 2 #[.int .u64 a0_0, .int .u64 a0_1, .int .u64 a0_2, .int .u64 a0_3, .string a0_4, .int .i64 a0_5] 109 ?_; intro gb135 hg w6 hbox hb; have BK135 := am (hbox); have GW135 := am ((pg hg HB : w.heap.size ≤ gb135)); have GE135 := am ((pg hg HB : w.heap.size ≤ gb135)); replace HB := am (below_step (pb HB) hb); clear hb hbox hg) | ((with_reducible refine gate_dst (N := 4) rfl ?_); refine be 4 #[.int .u64 0, .int .u64 0, .int .u64 0, .int .u64 0, .string (⟨#[]⟩ : ByteArray), .int .i64 0] 109 ?_; intro gb136 hg w7 hbox hb; have BK136 := am (hbox); have GW136 := am ((pg hg HB : w.heap.size ≤ gb136)); have GE136 := am ((pg hg HB : w.heap.size ≤ gb136)); replace HB := am (below_step (pb HB) hb); obtain ⟨NB135_136, NB136_135, hnb8, hnc8⟩ := pm hg BK135; replace BK135 := am (blk_below (pk BK135.out) hb); clear hb hbox hg; obtain ⟨hcz9_0, hcz9_1, hcz9_2, hcz9_3, hcz9_4, hcz9_5, hfz9_0, hfz9_1, hfz9_2, hfz9_3, hfz9_4, hfz9_5⟩ := g6 BK135) | ((with_reducible refine gate_callee (f := 66) rfl ?_); refine gl (some 6) Try.func66 #[.agg #[.int .u64 a0_0, .int .u64 a0_1, .int .u64 a0_2, .int .u64 a0_3, .string a0_4, .int .i64 a0_5]] ?_; (with_reducible refine (sip_right.calls a0_0 a0_1 a0_2 a0_3 a0_4 a0_5 true _ A3.out).mono ?_); rintro e w10 ⟨rfl, hb⟩; refine ⟨_, rfl, ?_⟩; replace BK135 := am (blk_below (pk BK135.out) hb); replace BK136 := am (blk_below (pk BK136.out) hb); replace HB := am (below_step (pb HB) hb); (try clear hb); (try clear hb2); (try clear hk); (try clear hi); obtain ⟨hcz11_0, hcz11_1, hcz11_2, hcz11_3, hcz11_4, hcz11_5, hfz11_0, hfz11_1, hfz11_2, hfz11_3, hfz11_4, hfz11_5⟩ := g6 BK135))
 go_loopg [] k (fun kq w' => ∃ (x136000_1 : Int) (x136001_1 : Int) (x136002_1 : Int) (x136003_1 : Int) (x136004_1 : ByteArray), Aside0 (sip_Write.l0 kq x136000_1 x136001_1 x136002_1 x136003_1 x136004_1 (wrap64 (a0_5 + (a1.size : Int))) = some (r1, r2, r3, r4, r5, r6)) ∧ Aside0 (kq ≤ k) ∧ Aside0 (w'.heap[gb135]? = some (.cells #[.int .u64 x136000_1, .int .u64 x136001_1, .int .u64 x136002_1, .int .u64 x136003_1, .string x136004_1, .int .i64 (wrap64 (a0_5 + (a1.size : Int)))] 109 (0, 0))) ∧ Aside0 (w'.heap[gb136]? = some (.cells #[.int .u64 0, .int .u64 0, .int .u64 0, .int .u64 0, .string (⟨#[]⟩ : ByteArray), .int .i64 0] 109 (0, 0))) ∧ Aside0 (Below w.heap.size w w'))
 case atStart => exact ⟨(a0_0), (a0_1), (a0_2), (a0_3), (a0_4 ++ a1), H', ⟨Nat.le_refl _⟩, ⟨by refine pk ?_; refine blk_put (cs := #[.int .u64 a0_0, .int .u64 a0_1, .int .u64 a0_2, .int .u64 a0_3, .string a0_4, .int .i64 (wrap64 (a0_5 + (a1.size : Int)))]) ?_ 4 _ rfl; refine pk ?_; refine blk_put (cs := #[.int .u64 a0_0, .int .u64 a0_1, .int .u64 a0_2, .int .u64 a0_3, .string a0_4, .int .i64 a0_5]) ?_ 5 _ rfl; refine pk ?_; exact BK135.out⟩, ⟨by refine pk ?_; refine blk_far ?_ NB136_135.out _; refine pk ?_; refine blk_far ?_ NB136_135.out _; refine pk ?_; exact BK136.out⟩, ⟨pb HB⟩⟩
 case round =>
  clear H'
  try clear p2
  try clear c4
  try clear c5
  try clear c5b0
  try clear c5b1
  try clear c5b2
  try clear c6
  try clear p6
  try clear c8
  try clear hcz11_0 hcz11_1 hcz11_2 hcz11_3 hcz11_4 hcz11_5
  try clear hcz9_0 hcz9_1 hcz9_2 hcz9_3 hcz9_4 hcz9_5
  try clear hfz11_0 hfz11_1 hfz11_2 hfz11_3 hfz11_4 hfz11_5
  try clear hfz9_0 hfz9_1 hfz9_2 hfz9_3 hfz9_4 hfz9_5
  obtain ⟨x136000_1, x136001_1, x136002_1, x136003_1, x136004_1, HA, HK1, BK135, BK136, HB⟩ := hrel
  cases gk with
  | zero => exact absurd HA.out (by simp [sip_Write.l0])
  | succ k1 =>
   have H := HA.out
   clear HA
   simp only [sip_Write.l0] at H
   by_cases c12 : (x136004_1.size : Int) ≥ 8
   ·rw [if_pos c12] at H
    have c12b0 : decide (8 ≤ (x136004_1.size : Int)) = true := decide_eq_true c12
    have c12b1 : decide (8 ≤ x136004_1.size) = true := decide_eq_true (by omega)
    clear c12
    by_cases c13 : 0 ≤ 8
    ·rw [if_pos c13] at H
     have c13b0 := eq_true c13
     have c13b1 : decide (0 ≤ 8) = true := decide_eq_true c13
     clear c13
     by_cases c14 : 8 ≤ (x136004_1.size : Int)
     ·rw [if_pos c14] at H
      have c14b0 := eq_true c14
      have c14b1 : decide (8 ≤ (x136004_1.size : Int)) = true := decide_eq_true c14
      clear c14
      replace H := Option.bind_eq_some_iff.mp H
      obtain ⟨t138, A150, H⟩ := H
      try dsimp only at H
      have A15 := am A150
      clear A150
      replace H := Option.bind_eq_some_iff.mp H
      obtain ⟨⟨t139, t140, t141, t142⟩, A160, H⟩ := H
      try dsimp only at H
      have A16 := am A160
      clear A160
      have c17b0 := eq_true (of_decide_eq_true (by first | (with_reducible assumption) | assumption) : 8 ≤ (x136004_1.size : Int))
      have H' := am H
      clear H
      have hnb18 := NB135_136.out
      have hnc18 := NB136_135.out
      obtain ⟨hcz19_0, hcz19_1, hcz19_2, hcz19_3, hcz19_4, hcz19_5, hfz19_0, hfz19_1, hfz19_2, hfz19_3, hfz19_4, hfz19_5⟩ := g6 BK135
      try go_wp2
      replace BK135 := am (blk_drew BK135.out)
      replace BK136 := am (blk_drew BK136.out)
      replace HB := am (below_drew1 HB.out)
      refine start_ (n := 9) (S := fun w' => w'.cell? ⟨gb135, 0, none⟩ = some (.int .u64 x136000_1) ∧ w'.cell? ⟨gb135, 1, none⟩ = some (.int .u64 x136001_1) ∧ w'.cell? ⟨gb135, 2, none⟩ = some (.int .u64 x136002_1) ∧ w'.cell? ⟨gb135, 3, none⟩ = some (.int .u64 x136003_1) ∧ w'.cell? ⟨gb135, 4, none⟩ = some (.string x136004_1) ∧ w'.cell? ⟨gb135, 5, none⟩ = some (.int .i64 (wrap64 (a0_5 + (a1.size : Int))))) (ds := [8]) #[false, false, false, false, false, false, false, false, false] (by kernel_rfl) rfl rfl ⟨ce BK135 0, ce BK135 1, ce BK135 2, ce BK135 3, ce BK135 4, ce BK135 5⟩ (fun hHeld => ?_); refine with_tabW sip_Write.tab6 sip_Write.bits6 (fun HT_ HW_ => ?_)
      generalize wr.drew = w20 at BK135 BK136 HB hHeld ⊢
      refine pu 0 ?_
      refine pu 2 ?_
      refine ta 1 hHeld ?_
      refine ta 3 hHeld ?_
      refine pu 4 ?_
      refine on1 5 (fun K hK => ?_)
      refine gs Try.func68 #[.string (x136004_1.extract 0 8)] ?_
      with_reducible refine (sip_number.calls k1 (x136004_1.extract 0 8) t138 _ A15.out).mono ?_
      rintro e w' ⟨rfl, ⟨nd, rfl⟩⟩
      refine ⟨_, rfl, ?_⟩
      refine hK.out _ _ ⟨ce BK135 0, ce BK135 1, ce BK135 2, ce BK135 3, ce BK135 4, ce BK135 5⟩ (fun hHeld => ?_)
      clear hK K
      refine nm ?_
      refine on1 6 (fun K hK => ?_)
      refine gs Try.func67 #[.agg #[.int .u64 x136000_1, .int .u64 x136001_1, .int .u64 x136002_1, .int .u64 x136003_1], .int .u64 t138] ?_
      with_reducible refine (sip_take.calls x136000_1 x136001_1 x136002_1 x136003_1 t138 t139 t140 t141 t142 _ A16.out).mono ?_
      rintro e w21 ⟨rfl, hb⟩
      refine ⟨_, rfl, ?_⟩
      replace BK135 := am (blk_below (pk BK135.out) hb)
      replace BK136 := am (blk_below (pk BK136.out) hb)
      replace HB := am (below_step (pb HB) hb)
      (try clear hb)
      (try clear hb2)
      (try clear hk)
      (try clear hi)
      refine hK.out _ _ ⟨ce BK135 0, ce BK135 1, ce BK135 2, ce BK135 3, ce BK135 4, ce BK135 5⟩ (fun hHeld => ?_)
      clear hK K
      refine nm ?_
      refine pu 7 ?_
      refine last_ (i := 8) (N := none) #[true, true, true, true, true, true, true, true, true] rfl rfl (one_of HT_.out (by kernel_rfl)) (by decide) (fun K hK => ?_)
      have hs22 : w21.cell? ⟨gb135, 0, none⟩ = some (.int .u64 x136000_1) := ce BK135 0
      have hfs22 := blk_frozen BK135.out 0
      have hns22_1 := NB136_135.out
      have hms22_1 := NB135_136.out
      have hs23 : w21.cell? ⟨gb135, 1, none⟩ = some (.int .u64 x136001_1) := ce BK135 1
      have hfs23 := blk_frozen BK135.out 1
      have hns23_1 := NB136_135.out
      have hms23_1 := NB135_136.out
      have hs24 : w21.cell? ⟨gb135, 2, none⟩ = some (.int .u64 x136002_1) := ce BK135 2
      have hfs24 := blk_frozen BK135.out 2
      have hns24_1 := NB136_135.out
      have hms24_1 := NB135_136.out
      have hs25 : w21.cell? ⟨gb135, 3, none⟩ = some (.int .u64 x136003_1) := ce BK135 3
      have hfs25 := blk_frozen BK135.out 3
      have hns25_1 := NB136_135.out
      have hms25_1 := NB135_136.out
      refine skip_ (w1 := ?_) (by rfl) rfl ?_ ?_
      rotate_left
      ·go_simp
       rfl
      refine hK.out _ _ ?_
      clear hK K
      refine done_ (done_of HT_.out (by kernel_rfl)) ?_
      obtain ⟨hcz26_0, hcz26_1, hcz26_2, hcz26_3, hcz26_4, hcz26_5, hfz26_0, hfz26_1, hfz26_2, hfz26_3, hfz26_4, hfz26_5⟩ := g6 BK135
      try go_wp2
      go_roundg k1
      case measure => have := HK1.out; omega
      case rel => exact ⟨(t139), (t140), (t141), (t142), (x136004_1.extract 8 x136004_1.size), H', ⟨by have := HK1.out; omega⟩, ⟨by refine pk ?_; refine blk_put (cs := #[.int .u64 t139, .int .u64 t140, .int .u64 t141, .int .u64 t142, .string x136004_1, .int .i64 (wrap64 (a0_5 + (a1.size : Int)))]) ?_ 4 _ rfl; refine pk ?_; refine blk_put (cs := #[.int .u64 t139, .int .u64 t140, .int .u64 t141, .int .u64 x136003_1, .string x136004_1, .int .i64 (wrap64 (a0_5 + (a1.size : Int)))]) ?_ 3 _ rfl; refine pk ?_; refine blk_put (cs := #[.int .u64 t139, .int .u64 t140, .int .u64 x136002_1, .int .u64 x136003_1, .string x136004_1, .int .i64 (wrap64 (a0_5 + (a1.size : Int)))]) ?_ 2 _ rfl; refine pk ?_; refine blk_put (cs := #[.int .u64 t139, .int .u64 x136001_1, .int .u64 x136002_1, .int .u64 x136003_1, .string x136004_1, .int .i64 (wrap64 (a0_5 + (a1.size : Int)))]) ?_ 1 _ rfl; refine pk ?_; refine blk_put (cs := #[.int .u64 x136000_1, .int .u64 x136001_1, .int .u64 x136002_1, .int .u64 x136003_1, .string x136004_1, .int .i64 (wrap64 (a0_5 + (a1.size : Int)))]) ?_ 0 _ rfl; refine pk ?_; exact BK135.out⟩, ⟨by refine pk ?_; refine blk_far ?_ NB136_135.out _; refine pk ?_; refine blk_far ?_ NB136_135.out _; refine pk ?_; refine blk_far ?_ NB136_135.out _; refine pk ?_; refine blk_far ?_ NB136_135.out _; refine pk ?_; refine blk_far ?_ NB136_135.out _; refine pk ?_; exact BK136.out⟩, ⟨pb HB⟩⟩
     ·rw [if_neg c14] at H
      exact absurd H (by simp)
    ·rw [if_neg c13] at H
     exact absurd H (by simp)
   ·rw [if_neg c12] at H
    have c12b0 : decide (8 ≤ (x136004_1.size : Int)) = false := decide_eq_false c12
    have c12b1 : decide (8 ≤ x136004_1.size) = false := decide_eq_false (by omega)
    clear c12
    simp only [Option.some.injEq, Prod.mk.injEq] at H
    obtain ⟨rfl, rfl, rfl, rfl, rfl, rfl⟩ := H
    have hnb27 := NB135_136.out
    have hnc27 := NB136_135.out
    obtain ⟨hcz28_0, hcz28_1, hcz28_2, hcz28_3, hcz28_4, hcz28_5, hfz28_0, hfz28_1, hfz28_2, hfz28_3, hfz28_4, hfz28_5⟩ := g6 BK135
    obtain ⟨hcz29_0, hcz29_1, hcz29_2, hcz29_3, hcz29_4, hcz29_5, hfz29_0, hfz29_1, hfz29_2, hfz29_3, hfz29_4, hfz29_5⟩ := g6 BK136
    go_wp2
    refine bodyPost_ret (results_cell_row rfl _ _ gb136 109 #[.int .u64 x136000_1, .int .u64 x136001_1, .int .u64 x136002_1, .int .u64 x136003_1, .string x136004_1, .int .i64 (wrap64 (a0_5 + (a1.size : Int)))] (0, 0) _ rfl (by refine pk ?_; refine blk_put (cs := #[.int .u64 x136000_1, .int .u64 x136001_1, .int .u64 x136002_1, .int .u64 x136003_1, .string x136004_1, .int .i64 0]) ?_ 5 _ rfl; refine pk ?_; refine blk_put (cs := #[.int .u64 x136000_1, .int .u64 x136001_1, .int .u64 x136002_1, .int .u64 x136003_1, .string (⟨#[]⟩ : ByteArray), .int .i64 0]) ?_ 4 _ rfl; refine pk ?_; refine blk_put (cs := #[.int .u64 x136000_1, .int .u64 x136001_1, .int .u64 x136002_1, .int .u64 0, .string (⟨#[]⟩ : ByteArray), .int .i64 0]) ?_ 3 _ rfl; refine pk ?_; refine blk_put (cs := #[.int .u64 x136000_1, .int .u64 x136001_1, .int .u64 0, .int .u64 0, .string (⟨#[]⟩ : ByteArray), .int .i64 0]) ?_ 2 _ rfl; refine pk ?_; refine blk_put (cs := #[.int .u64 x136000_1, .int .u64 0, .int .u64 0, .int .u64 0, .string (⟨#[]⟩ : ByteArray), .int .i64 0]) ?_ 1 _ rfl; refine pk ?_; refine blk_put (cs := #[.int .u64 0, .int .u64 0, .int .u64 0, .int .u64 0, .string (⟨#[]⟩ : ByteArray), .int .i64 0]) ?_ 0 _ rfl; refine pk ?_; exact BK136.out) Try.underlying109 rfl (by kernel_rfl)) rfl ?_
    exact ⟨by first | rfl | (simp [errW_none, errW_some] <;> rfl) | (simp [*, errW_none, errW_some] <;> rfl), pb HB⟩
def sip_New.f (a0_0 : Int) (a0_1 : Int) : Option (Int × Int × Int × Int × ByteArray × Int) := some (Go.bits .xor .u64 a0_0 8317987319222330741, Go.bits .xor .u64 a0_1 7237128888997146477, Go.bits .xor .u64 a0_0 7816392313619706465, Go.bits .xor .u64 a0_1 8387220255154660723, (⟨#[]⟩ : ByteArray), 0)
set_option maxHeartbeats 8000000 in
set_option maxRecDepth 100000 in
theorem sip_New.calls (a0_0 : Int) (a0_1 : Int) (r1 : Int) (r2 : Int) (r3 : Int) (r4 : Int) (r5 : ByteArray) (r6 : Int) (w : World) (h : sip_New.f a0_0 a0_1 = some (r1, r2, r3, r4, r5, r6)) :
  Calls Try.prog 53 #[.agg #[.int .u64 a0_0, .int .u64 a0_1]] w fun e w' => e = .returned (.agg #[.int .u64 r1, .int .u64 r2, .int .u64 r3, .int .u64 r4, .string r5, .int .i64 r6]) ∧ Below w.heap.size w w' := by
 have hu24 := Try.underlying24
 have hu109 := Try.underlying109
 have hu82 := Try.underlying82
 have HB := am (Below.refl w.heap.size w)
 have H : (some (Go.bits .xor .u64 a0_0 8317987319222330741, Go.bits .xor .u64 a0_1 7237128888997146477, Go.bits .xor .u64 a0_0 7816392313619706465, Go.bits .xor .u64 a0_1 8387220255154660723, (⟨#[]⟩ : ByteArray), 0)) = some (r1, r2, r3, r4, r5, r6) := h
 clear h
 simp only [Option.some.injEq, Prod.mk.injEq] at H
 obtain ⟨rfl, rfl, rfl, rfl, rfl, rfl⟩ := H
 go_enter Try.func53, Try.ntmps53
 go_wp2_with (first | ((with_reducible refine gate_dst (N := 1) rfl ?_); refine be 1 #[.int .u64 a0_0, .int .u64 a0_1] 24 ?_; intro gb143 hg w2 hbox hb; have BK143 := am (hbox); have GW143 := am ((pg hg HB : w.heap.size ≤ gb143)); have GE143 := am ((pg hg HB : w.heap.size ≤ gb143)); replace HB := am (below_step (pb HB) hb); clear hb hbox hg) | ((with_reducible refine gate_dst (N := 2) rfl ?_); refine be 2 #[.int .u64 0, .int .u64 0, .int .u64 0, .int .u64 0, .string (⟨#[]⟩ : ByteArray), .int .i64 0] 109 ?_; intro gb144 hg w3 hbox hb; have BK144 := am (hbox); have GW144 := am ((pg hg HB : w.heap.size ≤ gb144)); have GE144 := am ((pg hg HB : w.heap.size ≤ gb144)); replace HB := am (below_step (pb HB) hb); obtain ⟨NB143_144, NB144_143, hnb4, hnc4⟩ := pm hg BK143; replace BK143 := am (blk_below (pk BK143.out) hb); clear hb hbox hg; obtain ⟨hcz5_0, hcz5_1, hfz5_0, hfz5_1⟩ := g2 BK143; obtain ⟨hcz6_0, hcz6_1, hcz6_2, hcz6_3, hcz6_4, hcz6_5, hfz6_0, hfz6_1, hfz6_2, hfz6_3, hfz6_4, hfz6_5⟩ := g6 BK144))
 refine bodyPost_ret (results_cell_row rfl _ _ gb144 109 #[.int .u64 (Go.bits .xor .u64 a0_0 8317987319222330741), .int .u64 (Go.bits .xor .u64 a0_1 7237128888997146477), .int .u64 (Go.bits .xor .u64 a0_0 7816392313619706465), .int .u64 (Go.bits .xor .u64 a0_1 8387220255154660723), .string (⟨#[]⟩ : ByteArray), .int .i64 0] (0, 0) _ rfl (by refine pk ?_; refine blk_put (cs := #[.int .u64 (Go.bits .xor .u64 a0_0 8317987319222330741), .int .u64 (Go.bits .xor .u64 a0_1 7237128888997146477), .int .u64 (Go.bits .xor .u64 a0_0 7816392313619706465), .int .u64 (Go.bits .xor .u64 a0_1 8387220255154660723), .string (⟨#[]⟩ : ByteArray), .int .i64 0]) ?_ 5 _ rfl; refine pk ?_; refine blk_put (cs := #[.int .u64 (Go.bits .xor .u64 a0_0 8317987319222330741), .int .u64 (Go.bits .xor .u64 a0_1 7237128888997146477), .int .u64 (Go.bits .xor .u64 a0_0 7816392313619706465), .int .u64 (Go.bits .xor .u64 a0_1 8387220255154660723), .string (⟨#[]⟩ : ByteArray), .int .i64 0]) ?_ 4 _ rfl; refine pk ?_; refine blk_put (cs := #[.int .u64 (Go.bits .xor .u64 a0_0 8317987319222330741), .int .u64 (Go.bits .xor .u64 a0_1 7237128888997146477), .int .u64 (Go.bits .xor .u64 a0_0 7816392313619706465), .int .u64 0, .string (⟨#[]⟩ : ByteArray), .int .i64 0]) ?_ 3 _ rfl; refine pk ?_; refine blk_put (cs := #[.int .u64 (Go.bits .xor .u64 a0_0 8317987319222330741), .int .u64 (Go.bits .xor .u64 a0_1 7237128888997146477), .int .u64 0, .int .u64 0, .string (⟨#[]⟩ : ByteArray), .int .i64 0]) ?_ 2 _ rfl; refine pk ?_; refine blk_put (cs := #[.int .u64 (Go.bits .xor .u64 a0_0 8317987319222330741), .int .u64 0, .int .u64 0, .int .u64 0, .string (⟨#[]⟩ : ByteArray), .int .i64 0]) ?_ 1 _ rfl; refine pk ?_; refine blk_put (cs := #[.int .u64 0, .int .u64 0, .int .u64 0, .int .u64 0, .string (⟨#[]⟩ : ByteArray), .int .i64 0]) ?_ 0 _ rfl; refine pk ?_; exact BK144.out) Try.underlying109 rfl (by kernel_rfl)) rfl ?_
 exact ⟨by first | rfl | (simp [errW_none, errW_some] <;> rfl) | (simp [*, errW_none, errW_some] <;> rfl), pb HB⟩

def sip_Sum.f (k : Nat) (a0_0 : Int) (a0_1 : Int) (a1 : ByteArray) : Option (Int) := (sip_New.f a0_0 a0_1).bind fun bt146 => ((sip_Write.f k bt146.1 bt146.2.1 bt146.2.2.1 bt146.2.2.2.1 bt146.2.2.2.2.1 bt146.2.2.2.2.2 a1).bind fun bt152 => ((sip_Done.f k bt152.1 bt152.2.1 bt152.2.2.1 bt152.2.2.2.1 bt152.2.2.2.2.1 bt152.2.2.2.2.2).bind fun t158 => (some t158)))
theorem sip_Sum.mono : ∀ a0 a1 a2 k, LeO (sip_Sum.f k a0 a1 a2) (sip_Sum.f (k + 1) a0 a1 a2) := by
 intro a0 a1 a2 k
 unfold sip_Sum.f
 repeat' first
   | (with_reducible exact sip_Done.mono _ _ _ _ _ _ _)
   | (with_reducible exact sip_Write.mono _ _ _ _ _ _ _ _)
   | (with_reducible exact LeO.refl _)
   | (with_reducible exact LeO.none _)
   | (with_reducible refine LeO.ite ?_ ?_)
   | (with_reducible refine LeO.bind ?_ (fun _ => ?_))
set_option maxHeartbeats 8000000 in
set_option maxRecDepth 100000 in
theorem sip_Sum.calls (k : Nat) (a0_0 : Int) (a0_1 : Int) (a1 : ByteArray) (r : Int) (w : World) (h : sip_Sum.f k a0_0 a0_1 a1 = some r) :
  Calls Try.prog 33 #[.agg #[.int .u64 a0_0, .int .u64 a0_1], .string a1] w fun e w' => e = .returned (.int .u64 r) ∧ Below w.heap.size w w' := by
 have hu24 := Try.underlying24
 have HB := am (Below.refl w.heap.size w)
 have H : ((sip_New.f a0_0 a0_1).bind fun bt146 => ((sip_Write.f k bt146.1 bt146.2.1 bt146.2.2.1 bt146.2.2.2.1 bt146.2.2.2.2.1 bt146.2.2.2.2.2 a1).bind fun bt152 => ((sip_Done.f k bt152.1 bt152.2.1 bt152.2.2.1 bt152.2.2.2.1 bt152.2.2.2.2.1 bt152.2.2.2.2.2).bind fun t158 => (some t158)))) = some r := h
 clear h
 replace H := Option.bind_eq_some_iff.mp H
 obtain ⟨⟨t146, t147, t148, t149, t150, t151⟩, A30, H⟩ := H
 try dsimp only at H
 have A3 := am A30
 clear A30
 replace H := Option.bind_eq_some_iff.mp H
 obtain ⟨⟨t152, t153, t154, t155, t156, t157⟩, A40, H⟩ := H
 try dsimp only at H
 have A4 := am A40
 clear A40
 replace H := Option.bind_eq_some_iff.mp H
 obtain ⟨t158, A50, H⟩ := H
 try dsimp only at H
 have A5 := am A50
 clear A50
 obtain rfl := Option.some.inj H
 go_enter Try.func33, Try.ntmps33
 go_wp2_with (first | ((with_reducible refine gate_dst (N := 2) rfl ?_); refine be 2 #[.int .u64 a0_0, .int .u64 a0_1] 24 ?_; intro gb145 hg w6 hbox hb; have BK145 := am (hbox); have GW145 := am ((pg hg HB : w.heap.size ≤ gb145)); have GE145 := am ((pg hg HB : w.heap.size ≤ gb145)); replace HB := am (below_step (pb HB) hb); clear hb hbox hg; obtain ⟨hcz7_0, hcz7_1, hfz7_0, hfz7_1⟩ := g2 BK145) | ((with_reducible refine gate_callee (f := 53) rfl ?_); refine gl (some 6) Try.func53 #[.agg #[.int .u64 a0_0, .int .u64 a0_1]] ?_; (with_reducible refine (sip_New.calls a0_0 a0_1 t146 t147 t148 t149 t150 t151 _ A3.out).mono ?_); rintro e w8 ⟨rfl, hb⟩; refine ⟨_, rfl, ?_⟩; replace BK145 := am (blk_below (pk BK145.out) hb); replace HB := am (below_step (pb HB) hb); (try clear hb); (try clear hb2); (try clear hk); (try clear hi)) | ((with_reducible refine gate_callee (f := 52) rfl ?_); refine gl (some 8) Try.func52 #[.agg #[.int .u64 t146, .int .u64 t147, .int .u64 t148, .int .u64 t149, .string t150, .int .i64 t151], .string a1] ?_; (with_reducible refine (sip_Write.calls k t146 t147 t148 t149 t150 t151 a1 t152 t153 t154 t155 t156 t157 _ A4.out).mono ?_); rintro e w9 ⟨rfl, hb⟩; refine ⟨_, rfl, ?_⟩; replace BK145 := am (blk_below (pk BK145.out) hb); replace HB := am (below_step (pb HB) hb); (try clear hb); (try clear hb2); (try clear hk); (try clear hi)) | ((with_reducible refine gate_callee (f := 51) rfl ?_); refine gl (some 9) Try.func51 #[.agg #[.int .u64 t152, .int .u64 t153, .int .u64 t154, .int .u64 t155, .string t156, .int .i64 t157]] ?_; (with_reducible refine (sip_Done.calls k t152 t153 t154 t155 t156 t157 t158 _ A5.out).mono ?_); rintro e w10 ⟨rfl, hb⟩; refine ⟨_, rfl, ?_⟩; replace BK145 := am (blk_below (pk BK145.out) hb); replace HB := am (below_step (pb HB) hb); (try clear hb); (try clear hb2); (try clear hk); (try clear hi)))
 go_ret
 exact ⟨by first | rfl | (simp [errW_none, errW_some] <;> rfl) | (simp [*, errW_none, errW_some] <;> rfl), pb HB⟩

def cmp_Or_int.l0 : Nat → Int → List Int → Int → Int → Option (Int)
 | 0, _, _, _, _ => none
 | k + 1, x3, x6, x7, x8 => if x8 < x7 then (if 0 ≤ x8 then (if x8 < (x6.length : Int) then (if (rd x6 x8) = x3 then (cmp_Or_int.l0 k x3 x6 x7 (wrap64 (x8 + 1))) else (some (rd x6 x8))) else (none)) else (none)) else (some x3)
def cmp_Or_int.f (k : Nat) (l0 : List Int) : Option (Int) := cmp_Or_int.l0 k 0 l0 (l0.length : Int) 0
theorem cmp_Or_int.mono_l : ∀ k, (∀ y0 y1 y2 y3, LeO (cmp_Or_int.l0 k y0 y1 y2 y3) (cmp_Or_int.l0 (k + 1) y0 y1 y2 y3))
 | 0 => fun _ _ _ _ r h => by simp [cmp_Or_int.l0] at h
 | k + 1 => by
  have ih0 := cmp_Or_int.mono_l k
  ·intro y0 y1 y2 y3
   unfold cmp_Or_int.l0
   repeat' first
   | (with_reducible exact ih0 _ _ _ _)
   | (with_reducible exact LeO.refl _)
   | (with_reducible exact LeO.none _)
   | (with_reducible refine LeO.ite ?_ ?_)
   | (with_reducible refine LeO.bind ?_ (fun _ => ?_))
theorem cmp_Or_int.mono : ∀ a0 k, LeO (cmp_Or_int.f k a0) (cmp_Or_int.f (k + 1) a0) := by
 intro a0 k
 have ih0 := cmp_Or_int.mono_l k
 unfold cmp_Or_int.f
 repeat' first
   | (with_reducible exact ih0 _ _ _ _)
   | (with_reducible exact LeO.refl _)
   | (with_reducible exact LeO.none _)
   | (with_reducible refine LeO.ite ?_ ?_)
   | (with_reducible refine LeO.bind ?_ (fun _ => ?_))
set_option maxHeartbeats 8000000 in
set_option maxRecDepth 100000 in
theorem cmp_Or_int.calls (k : Nat) (A0 : Option Addr) (c0 : Nat) (l0 : List Int) (r : Int) (w : World) (hr0 : Kd.C (Kd.int .i64) w A0 l0.length l0) (hc0 : l0.length ≤ c0) (h : cmp_Or_int.f k l0 = some r) :
  Calls Try.prog 55 #[.slice A0 l0.length c0] w fun e w' => e = .returned (.int .i64 r) ∧ Drawn0 w w' := by
 have HR0 := am hr0
 have HC0 := am hc0
 clear hr0 hc0
 have H : (cmp_Or_int.l0 k 0 l0 (l0.length : Int) 0) = some r := h
 clear h
 have H' := am H
 clear H
 go_enter Try.func55, Try.ntmps55
 go_wp2
 go_loopg [8] k (fun kq v8 w' => ∃ (x8_1 : Int), v8 = .int .i64 x8_1 ∧ Aside0 (cmp_Or_int.l0 kq 0 l0 (l0.length : Int) x8_1 = some r) ∧ Aside0 (kq ≤ k) ∧ Drawn0 w w')
 case atStart => exact ⟨(0), (by first | rfl | (simp; done) | (simp [*]; done)), H', ⟨Nat.le_refl _⟩, by repeat (first | exact Drawn0.refl _ | apply Drawn0.step)⟩
 case round =>
  clear H'
  obtain ⟨x8_1, rfl, HA, HK1, ⟨m1, rfl⟩⟩ := hrel
  cases gk with
  | zero => exact absurd HA.out (by simp [cmp_Or_int.l0])
  | succ k1 =>
   have H := HA.out
   clear HA
   simp only [cmp_Or_int.l0] at H
   by_cases c2 : x8_1 < (l0.length : Int)
   ·rw [if_pos c2] at H
    have c2b0 : decide (x8_1 < (l0.length : Int)) = true := decide_eq_true c2
    clear c2
    by_cases c3 : 0 ≤ x8_1
    ·rw [if_pos c3] at H
     have c3b0 : decide (0 ≤ x8_1) = true := decide_eq_true c3
     clear c3
     by_cases c4 : x8_1 < (l0.length : Int)
     ·rw [if_pos c4] at H
      have c4b0 : decide (x8_1 < (l0.length : Int)) = true := decide_eq_true c4
      clear c4
      by_cases c5 : (rd l0 x8_1) = 0
      ·rw [if_pos c5] at H
       have c5b0 : ((rd l0 x8_1) == 0) = true := beq_iff_eq.mpr c5
       have c5b1 : ((rd l0 x8_1) != 0) = false := bne_eq_false_iff_eq.mpr c5
       clear c5
       have H' := am H
       clear H
       have p159 : 0 ≤ (x8_1 : Int) := of_decide_eq_true (by first | (with_reducible assumption) | assumption)
       have q159 : x8_1 < (l0.length : Int) := of_decide_eq_true (by first | (with_reducible assumption) | assumption)
       obtain ⟨ad159, e159, hx159_0⟩ := Kd.at_int HR0.out x8_1 p159 q159
       cases e159
       replace p159 := eq_true p159
       replace q159 := eq_true q159
       go_wp2
       go_roundg k1
       case measure => have := HK1.out; omega
       case rel => exact ⟨(wrap64 (x8_1 + 1)), (by first | rfl | (simp; done) | (simp [*]; done)), H', ⟨by have := HK1.out; omega⟩, by repeat (first | exact Drawn0.refl _ | apply Drawn0.step)⟩
      ·rw [if_neg c5] at H
       have c5b0 : ((rd l0 x8_1) == 0) = false := beq_eq_false_iff_ne.mpr c5
       have c5b1 : ((rd l0 x8_1) != 0) = true := bne_iff_ne.mpr c5
       obtain rfl := Option.some.inj H
       have p159 : 0 ≤ (x8_1 : Int) := of_decide_eq_true (by first | (with_reducible assumption) | assumption)
       have q159 : x8_1 < (l0.length : Int) := of_decide_eq_true (by first | (with_reducible assumption) | assumption)
       obtain ⟨ad159, e159, hx159_0⟩ := Kd.at_int HR0.out x8_1 p159 q159
       cases e159
       replace p159 := eq_true p159
       replace q159 := eq_true q159
       go_wp2
       go_ret
       exact ⟨by first | rfl | (simp; done) | (simp [*]; done), by repeat (first | exact Drawn0.refl _ | apply Drawn0.step)⟩
     ·rw [if_neg c4] at H
      exact absurd H (by simp)
    ·rw [if_neg c3] at H
     exact absurd H (by simp)
   ·rw [if_neg c2] at H
    have c2b0 : decide (x8_1 < (l0.length : Int)) = false := decide_eq_false c2
    clear c2
    obtain rfl := Option.some.inj H
    go_wp2
    go_ret
    exact ⟨by first | rfl | (simp; done) | (simp [*]; done), by repeat (first | exact Drawn0.refl _ | apply Drawn0.step)⟩
def cmp_isNaN_uint64.f (a0 : Int) : Option (Bool) := some (a0 != a0)
set_option maxHeartbeats 8000000 in
set_option maxRecDepth 100000 in
theorem cmp_isNaN_uint64.calls (a0 : Int) (r : Bool) (w : World) (h : cmp_isNaN_uint64.f a0 = some r) :
  Calls Try.prog 70 #[.int .u64 a0] w fun e w' => e = .returned (.bool r) ∧ Drawn0 w w' := by
 have H : (some (a0 != a0)) = some r := h
 clear h
 obtain rfl := Option.some.inj H
 go_enter Try.func70, Try.ntmps70
 go_wp2
 go_ret
 exact ⟨by first | rfl | (simp; done) | (simp [*]; done), by repeat (first | exact Drawn0.refl _ | apply Drawn0.step)⟩

def cmp_Compare_uint64.f (a0 : Int) (a1 : Int) : Option (Int) := (cmp_isNaN_uint64.f a0).bind fun t160 => ((cmp_isNaN_uint64.f a1).bind fun t161 => (if t160 = true then (if t161 = true then (some 0) else (some (-1))) else (if t161 = true then (some 1) else (if a0 < a1 then (some (-1)) else (if a0 > a1 then (some 1) else (some 0))))))
set_option maxHeartbeats 8000000 in
set_option maxRecDepth 100000 in
theorem cmp_Compare_uint64.calls (a0 : Int) (a1 : Int) (r : Int) (w : World) (h : cmp_Compare_uint64.f a0 a1 = some r) :
  Calls Try.prog 56 #[.int .u64 a0, .int .u64 a1] w fun e w' => e = .returned (.int .i64 r) ∧ Drawn0 w w' := by
 have H : ((cmp_isNaN_uint64.f a0).bind fun t160 => ((cmp_isNaN_uint64.f a1).bind fun t161 => (if t160 = true then (if t161 = true then (some 0) else (some (-1))) else (if t161 = true then (some 1) else (if a0 < a1 then (some (-1)) else (if a0 > a1 then (some 1) else (some 0))))))) = some r := h
 clear h
 replace H := Option.bind_eq_some_iff.mp H
 obtain ⟨t160, A30, H⟩ := H
 try dsimp only at H
 have A3 := am A30
 clear A30
 replace H := Option.bind_eq_some_iff.mp H
 obtain ⟨t161, A40, H⟩ := H
 try dsimp only at H
 have A4 := am A40
 clear A40
 by_cases c5 : t160 = true
 ·subst c5
  have H1 : (if t161 = true then (some 0) else (some (-1))) = some r := by rw [if_pos rfl] at H; exact H
  clear H
  have H := H1
  clear H1
  by_cases c6 : t161 = true
  ·subst c6
   have H1 : (some 0) = some r := by rw [if_pos rfl] at H; exact H
   clear H
   have H := H1
   clear H1
   obtain rfl := Option.some.inj H
   go_enter Try.func56, Try.ntmps56
   go_wp2_with (first | ((with_reducible refine gate_callee (f := 70) rfl ?_); refine gl (some 8) Try.func70 #[.int .u64 a0] ?_; (with_reducible refine (cmp_isNaN_uint64.calls a0 true _ A3.out).mono ?_); rintro e w' ⟨rfl, ⟨nd, rfl⟩⟩; refine ⟨_, rfl, ?_⟩) | ((with_reducible refine gate_callee (f := 70) rfl ?_); refine gl (some 10) Try.func70 #[.int .u64 a1] ?_; (with_reducible refine (cmp_isNaN_uint64.calls a1 true _ A4.out).mono ?_); rintro e w' ⟨rfl, ⟨nd, rfl⟩⟩; refine ⟨_, rfl, ?_⟩))
   go_ret
   exact ⟨by first | rfl | (simp; done) | (simp [*]; done), by repeat (first | exact Drawn0.refl _ | apply Drawn0.step)⟩
  replace c6 := Bool.eq_false_iff.mpr c6
  subst c6
  have H1 : (some (-1)) = some r := by rw [if_neg (show ¬ (false = true) by decide)] at H; exact H
  clear H
  have H := H1
  clear H1
  obtain rfl := Option.some.inj H
  go_enter Try.func56, Try.ntmps56
  go_wp2_with (first | ((with_reducible refine gate_callee (f := 70) rfl ?_); refine gl (some 8) Try.func70 #[.int .u64 a0] ?_; (with_reducible refine (cmp_isNaN_uint64.calls a0 true _ A3.out).mono ?_); rintro e w' ⟨rfl, ⟨nd, rfl⟩⟩; refine ⟨_, rfl, ?_⟩) | ((with_reducible refine gate_callee (f := 70) rfl ?_); refine gl (some 10) Try.func70 #[.int .u64 a1] ?_; (with_reducible refine (cmp_isNaN_uint64.calls a1 false _ A4.out).mono ?_); rintro e w' ⟨rfl, ⟨nd, rfl⟩⟩; refine ⟨_, rfl, ?_⟩))
  go_ret
  exact ⟨by first | rfl | (simp; done) | (simp [*]; done), by repeat (first | exact Drawn0.refl _ | apply Drawn0.step)⟩
 replace c5 := Bool.eq_false_iff.mpr c5
 subst c5
 have H1 : (if t161 = true then (some 1) else (if a0 < a1 then (some (-1)) else (if a0 > a1 then (some 1) else (some 0)))) = some r := by rw [if_neg (show ¬ (false = true) by decide)] at H; exact H
 clear H
 have H := H1
 clear H1
 by_cases c7 : t161 = true
 ·subst c7
  have H1 : (some 1) = some r := by rw [if_pos rfl] at H; exact H
  clear H
  have H := H1
  clear H1
  obtain rfl := Option.some.inj H
  go_enter Try.func56, Try.ntmps56
  go_wp2_with (first | ((with_reducible refine gate_callee (f := 70) rfl ?_); refine gl (some 8) Try.func70 #[.int .u64 a0] ?_; (with_reducible refine (cmp_isNaN_uint64.calls a0 false _ A3.out).mono ?_); rintro e w' ⟨rfl, ⟨nd, rfl⟩⟩; refine ⟨_, rfl, ?_⟩) | ((with_reducible refine gate_callee (f := 70) rfl ?_); refine gl (some 10) Try.func70 #[.int .u64 a1] ?_; (with_reducible refine (cmp_isNaN_uint64.calls a1 true _ A4.out).mono ?_); rintro e w' ⟨rfl, ⟨nd, rfl⟩⟩; refine ⟨_, rfl, ?_⟩))
  go_ret
  exact ⟨by first | rfl | (simp; done) | (simp [*]; done), by repeat (first | exact Drawn0.refl _ | apply Drawn0.step)⟩
 replace c7 := Bool.eq_false_iff.mpr c7
 subst c7
 have H1 : (if a0 < a1 then (some (-1)) else (if a0 > a1 then (some 1) else (some 0))) = some r := by rw [if_neg (show ¬ (false = true) by decide)] at H; exact H
 clear H
 have H := H1
 clear H1
 by_cases c8 : a0 < a1
 ·rw [if_pos c8] at H
  have c8b0 : decide (a0 < a1) = true := decide_eq_true c8
  clear c8
  obtain rfl := Option.some.inj H
  go_enter Try.func56, Try.ntmps56
  go_wp2_with (first | ((with_reducible refine gate_callee (f := 70) rfl ?_); refine gl (some 8) Try.func70 #[.int .u64 a0] ?_; (with_reducible refine (cmp_isNaN_uint64.calls a0 false _ A3.out).mono ?_); rintro e w' ⟨rfl, ⟨nd, rfl⟩⟩; refine ⟨_, rfl, ?_⟩) | ((with_reducible refine gate_callee (f := 70) rfl ?_); refine gl (some 10) Try.func70 #[.int .u64 a1] ?_; (with_reducible refine (cmp_isNaN_uint64.calls a1 false _ A4.out).mono ?_); rintro e w' ⟨rfl, ⟨nd, rfl⟩⟩; refine ⟨_, rfl, ?_⟩))
  go_ret
  exact ⟨by first | rfl | (simp; done) | (simp [*]; done), by repeat (first | exact Drawn0.refl _ | apply Drawn0.step)⟩
 rw [if_neg c8] at H
 have c8b0 : decide (a0 < a1) = false := decide_eq_false c8
 clear c8
 by_cases c9 : a0 > a1
 ·rw [if_pos c9] at H
  have c9b0 : decide (a1 < a0) = true := decide_eq_true c9
  clear c9
  obtain rfl := Option.some.inj H
  go_enter Try.func56, Try.ntmps56
  go_wp2_with (first | ((with_reducible refine gate_callee (f := 70) rfl ?_); refine gl (some 8) Try.func70 #[.int .u64 a0] ?_; (with_reducible refine (cmp_isNaN_uint64.calls a0 false _ A3.out).mono ?_); rintro e w' ⟨rfl, ⟨nd, rfl⟩⟩; refine ⟨_, rfl, ?_⟩) | ((with_reducible refine gate_callee (f := 70) rfl ?_); refine gl (some 10) Try.func70 #[.int .u64 a1] ?_; (with_reducible refine (cmp_isNaN_uint64.calls a1 false _ A4.out).mono ?_); rintro e w' ⟨rfl, ⟨nd, rfl⟩⟩; refine ⟨_, rfl, ?_⟩))
  go_ret
  exact ⟨by first | rfl | (simp; done) | (simp [*]; done), by repeat (first | exact Drawn0.refl _ | apply Drawn0.step)⟩
 rw [if_neg c9] at H
 have c9b0 : decide (a1 < a0) = false := decide_eq_false c9
 clear c9
 obtain rfl := Option.some.inj H
 go_enter Try.func56, Try.ntmps56
 go_wp2_with (first | ((with_reducible refine gate_callee (f := 70) rfl ?_); refine gl (some 8) Try.func70 #[.int .u64 a0] ?_; (with_reducible refine (cmp_isNaN_uint64.calls a0 false _ A3.out).mono ?_); rintro e w' ⟨rfl, ⟨nd, rfl⟩⟩; refine ⟨_, rfl, ?_⟩) | ((with_reducible refine gate_callee (f := 70) rfl ?_); refine gl (some 10) Try.func70 #[.int .u64 a1] ?_; (with_reducible refine (cmp_isNaN_uint64.calls a1 false _ A4.out).mono ?_); rintro e w' ⟨rfl, ⟨nd, rfl⟩⟩; refine ⟨_, rfl, ?_⟩))
 go_ret
 exact ⟨by first | rfl | (simp; done) | (simp [*]; done), by repeat (first | exact Drawn0.refl _ | apply Drawn0.step)⟩

def bytealg_CompareString.f (a0 a1 : ByteArray) : Option Int := some (Lib.compareBytes a0.data.toList a1.data.toList)
theorem bytealg_CompareString.calls (a0 a1 : ByteArray) (r : Int) (w : World) (h : bytealg_CompareString.f a0 a1 = some r) :
  Calls Try.prog 71 #[.string a0, .string a1] w fun e w' => e = .returned (.int .i64 r) ∧ Drawn0 w w' := by
 obtain rfl := Option.some.inj h
 clear h
 have hx : ∀ W : World, (callFunc 79 #[.string a0, .string a1]).run Try.prog W = .ok (.value (.int .i64 (Lib.compareBytes a0.data.toList a1.data.toList))) W := fun W => by
  rw [run_callFunc_extern Try.func79 (by kernel_rfl) (by kernel_rfl) (by kernel_rfl) (e := Extern.BytealgCompare.compare) (by kernel_rfl), Lib.run_compareString]
  rfl
 go_enter Try.func71, Try.ntmps71
 go_wp2_with (simp only [hx])
 go_ret
 exact ⟨rfl, ⟨0, rfl⟩⟩

def strings_Compare.f (a0 : ByteArray) (a1 : ByteArray) : Option (Int) := (bytealg_CompareString.f a0 a1).bind fun t162 => (some t162)
set_option maxHeartbeats 8000000 in
set_option maxRecDepth 100000 in
theorem strings_Compare.calls (a0 : ByteArray) (a1 : ByteArray) (r : Int) (w : World) (h : strings_Compare.f a0 a1 = some r) :
  Calls Try.prog 57 #[.string a0, .string a1] w fun e w' => e = .returned (.int .i64 r) ∧ Drawn0 w w' := by
 have H : ((bytealg_CompareString.f a0 a1).bind fun t162 => (some t162)) = some r := h
 clear h
 replace H := Option.bind_eq_some_iff.mp H
 obtain ⟨t162, A30, H⟩ := H
 try dsimp only at H
 have A3 := am A30
 clear A30
 obtain rfl := Option.some.inj H
 go_enter Try.func57, Try.ntmps57
 go_wp2_with (first | ((with_reducible refine gate_callee (f := 71) rfl ?_); refine gl (some 7) Try.func71 #[.string a0, .string a1] ?_; (with_reducible refine (bytealg_CompareString.calls a0 a1 t162 _ A3.out).mono ?_); rintro e w' ⟨rfl, ⟨nd, rfl⟩⟩; refine ⟨_, rfl, ?_⟩))
 go_ret
 exact ⟨by first | rfl | (simp; done) | (simp [*]; done), by repeat (first | exact Drawn0.refl _ | apply Drawn0.step)⟩

def bottom_compare.f (k : Nat) (a0_0 : ByteArray) (a0_1 : Int) (a0_2 : Int) (a0_3 : Int) (a1_0 : ByteArray) (a1_1 : Int) (a1_2 : Int) (a1_3 : Int) : Option (Int) := (cmp_Compare_uint64.f a0_1 a1_1).bind fun t165 => ((strings_Compare.f a0_0 a1_0).bind fun t166 => ((cmp_Or_int.f k (([t165, t166] : List Int))).bind fun t170 => (some t170)))
theorem bottom_compare.mono : ∀ a0 a1 a2 a3 a4 a5 a6 a7 k, LeO (bottom_compare.f k a0 a1 a2 a3 a4 a5 a6 a7) (bottom_compare.f (k + 1) a0 a1 a2 a3 a4 a5 a6 a7) := by
 intro a0 a1 a2 a3 a4 a5 a6 a7 k
 unfold bottom_compare.f
 repeat' first
   | (with_reducible exact cmp_Or_int.mono _ _)
   | (with_reducible exact LeO.refl _)
   | (with_reducible exact LeO.none _)
   | (with_reducible refine LeO.ite ?_ ?_)
   | (with_reducible refine LeO.bind ?_ (fun _ => ?_))
def bottom_compare.T1 : Bool × List (List Nat × List Nat) := (true, [([], []), ([0], [0]), ([], []), ([2], [2]), ([1, 3], [1, 3]), ([], []), ([5], [5]), ([], []), ([7], [7]), ([6, 8, 4], [6, 8]), ([4, 9], [4, 9]), ([10, 9], [10]), ([11, 11, 0, 1, 2, 3, 4, 5, 6, 7, 8, 9, 10, 11], [11])])
def bottom_compare.B1 : List Nat := [0, 1, 0, 4, 15, 0, 32, 0, 128, 511, 1023, 2047, 4095]
theorem bottom_compare.tab1 : rtab .any (opsOf Try.f46 1) = bottom_compare.T1 := by kernel_rfl
theorem bottom_compare.bits1 : waitsOk bottom_compare.T1.2 bottom_compare.B1 = true := by kernel_rfl
set_option maxHeartbeats 8000000 in
set_option maxRecDepth 100000 in
theorem bottom_compare.calls (k : Nat) (a0_0 : ByteArray) (a0_1 : Int) (a0_2 : Int) (a0_3 : Int) (a1_0 : ByteArray) (a1_1 : Int) (a1_2 : Int) (a1_3 : Int) (r : Int) (w : World) (h : bottom_compare.f k a0_0 a0_1 a0_2 a0_3 a1_0 a1_1 a1_2 a1_3 = some r) :
  Calls Try.prog 46 #[.agg #[.string a0_0, .int .u64 a0_1, .int .u64 a0_2, .int .u64 a0_3], .agg #[.string a1_0, .int .u64 a1_1, .int .u64 a1_2, .int .u64 a1_3]] w fun e w' => e = .returned (.int .i64 r) ∧ Below w.heap.size w w' := by
 have hu87 := Try.underlying87
 have HB := am (Below.refl w.heap.size w)
 have H : ((cmp_Compare_uint64.f a0_1 a1_1).bind fun t165 => ((strings_Compare.f a0_0 a1_0).bind fun t166 => ((cmp_Or_int.f k (([t165, t166] : List Int))).bind fun t170 => (some t170)))) = some r := h
 clear h
 replace H := Option.bind_eq_some_iff.mp H
 obtain ⟨t165, A30, H⟩ := H
 try dsimp only at H
 have A3 := am A30
 clear A30
 replace H := Option.bind_eq_some_iff.mp H
 obtain ⟨t166, A40, H⟩ := H
 try dsimp only at H
 have A4 := am A40
 clear A40
 obtain ⟨y167, hy167⟩ : ∃ y_ : List Int, y_ = (([t165, t166] : List Int)) := ⟨_, rfl⟩
 replace H : ((cmp_Or_int.f k y167).bind fun t170 => (some t170)) = some r := by first | (rw [hy167]; with_reducible exact H) | (have H2_ := (Option.bind_some _ _).symm.trans H; rw [hy167]; with_reducible exact H2_) | (have H2_ := (Option.bind_some _ _).symm.trans H; with_reducible exact H2_) | with_reducible exact H | (rw [hy167]; exact H) | exact H
 have Ny167 := am hy167
 clear hy167
 replace H := Option.bind_eq_some_iff.mp H
 obtain ⟨t170, A50, H⟩ := H
 try dsimp only at H
 have A5 := am A50
 clear A50
 obtain rfl := Option.some.inj H
 go_enter Try.func46, Try.ntmps46
 try go_wp2_with (first | ((with_reducible refine gate_dst (N := 2) rfl ?_); refine be 2 #[.string a0_0, .int .u64 a0_1, .int .u64 a0_2, .int .u64 a0_3] 87 ?_; intro gb163 hg w6 hbox hb; have BK163 := am (hbox); have GW163 := am ((pg hg HB : w.heap.size ≤ gb163)); have GE163 := am ((pg hg HB : w.heap.size ≤ gb163)); replace HB := am (below_step (pb HB) hb); clear hb hbox hg) | ((with_reducible refine gate_dst (N := 3) rfl ?_); refine be 3 #[.string a1_0, .int .u64 a1_1, .int .u64 a1_2, .int .u64 a1_3] 87 ?_; intro gb164 hg w7 hbox hb; have BK164 := am (hbox); have GW164 := am ((pg hg HB : w.heap.size ≤ gb164)); have GE164 := am ((pg hg HB : w.heap.size ≤ gb164)); replace HB := am (below_step (pb HB) hb); obtain ⟨NB163_164, NB164_163, -, -⟩ := pm hg BK163; replace BK163 := am (blk_below (pk BK163.out) hb); clear hb hbox hg))
 replace BK163 := am (blk_drew BK163.out)
 replace BK164 := am (blk_drew BK164.out)
 replace HB := am (below_drew1 HB.out)
 refine start_ (n := 13) (S := fun w' => w'.cell? ⟨gb163, 0, none⟩ = some (.string a0_0) ∧ w'.cell? ⟨gb163, 1, none⟩ = some (.int .u64 a0_1) ∧ w'.cell? ⟨gb163, 2, none⟩ = some (.int .u64 a0_2) ∧ w'.cell? ⟨gb163, 3, none⟩ = some (.int .u64 a0_3) ∧ w'.cell? ⟨gb164, 0, none⟩ = some (.string a1_0) ∧ w'.cell? ⟨gb164, 1, none⟩ = some (.int .u64 a1_1) ∧ w'.cell? ⟨gb164, 2, none⟩ = some (.int .u64 a1_2) ∧ w'.cell? ⟨gb164, 3, none⟩ = some (.int .u64 a1_3)) (ds := []) #[false, false, false, false, false, false, false, false, false, false, false, false, false] (by kernel_rfl) rfl rfl ⟨ce BK163 0, ce BK163 1, ce BK163 2, ce BK163 3, ce BK164 0, ce BK164 1, ce BK164 2, ce BK164 3⟩ (fun hHeld => ?_); refine with_tabW bottom_compare.tab1 bottom_compare.bits1 (fun HT_ HW_ => ?_)
 generalize w7.drew = w8 at BK163 BK164 HB hHeld ⊢
 refine pu 0 ?_
 refine pu 2 ?_
 refine pu 5 ?_
 refine pu 7 ?_
 refine ta 1 hHeld ?_
 refine ta 3 hHeld ?_
 refine ta 6 hHeld ?_
 refine ta 8 hHeld ?_
 refine on1 4 (fun K hK => ?_)
 refine gs Try.func56 #[.int .u64 a0_1, .int .u64 a1_1] ?_
 with_reducible refine (cmp_Compare_uint64.calls a0_1 a1_1 t165 _ A3.out).mono ?_
 rintro e w' ⟨rfl, ⟨nd, rfl⟩⟩
 refine ⟨_, rfl, ?_⟩
 refine hK.out _ _ ⟨ce BK163 0, ce BK163 1, ce BK163 2, ce BK163 3, ce BK164 0, ce BK164 1, ce BK164 2, ce BK164 3⟩ (fun hHeld => ?_)
 clear hK K
 refine nm ?_
 refine on1 9 (fun K hK => ?_)
 refine gs Try.func57 #[.string a0_0, .string a1_0] ?_
 with_reducible refine (strings_Compare.calls a0_0 a1_0 t166 _ A4.out).mono ?_
 rintro e w' ⟨rfl, ⟨nd, rfl⟩⟩
 refine ⟨_, rfl, ?_⟩
 refine hK.out _ _ ⟨ce BK163 0, ce BK163 1, ce BK163 2, ce BK163 3, ce BK164 0, ce BK164 1, ce BK164 2, ce BK164 3⟩ (fun hHeld => ?_)
 clear hK K
 refine nm ?_
 refine on1 10 (fun K hK => ?_)
 refine Kd.R_lit_step (Kd.int .i64) _ 3 ?hg (N := 15) ?hd (xs := ([t165, t166] : List Int)) (inner := [.int .i64 t165, .int .i64 t166]) (ok := fun _ => True) (okp := fun _ => True) ?hr ?hp (fun _ hk => hk) trivial (Below.refl _ _) (Nat.le_refl _) (by simp) ?_; (case hd => rfl); (case hg => rfl); (case hr => first | (go_simp; done) | (go_simp; rfl)); (case hp => exact (Reps.one (show Kd.M (Kd.int .i64) _ _ _ t165 [.int .i64 t165] from rfl) (Reps.one (show Kd.M (Kd.int .i64) _ _ _ t166 [.int .i64 t166] from rfl) (Reps.none _ _))))
 intro v168 w9 ho10 hb hg_ hnew_
 clear hg_ hnew_
 (first | rw [← Ny167.out] at ho10 | (simp only [Int.reduceToNat] at ho10; rw [← Ny167.out] at ho10))
 have n0_ := am (Kd.R_lower ho10 (below_size (pb HB)))
 have n1_ := am (blk_below (pk BK163.out) hb)
 have n2_ := am (blk_below (pk BK164.out) hb)
 have n3_ := am (below_step (pb HB) hb)
 clear BK163 BK164 HB
 have HO169 := n0_
 have BK163 := n1_
 have BK164 := n2_
 have HB := n3_
 clear n0_ n1_ n2_ n3_ hb ho10
 obtain ⟨Ao11, co11, eo11⟩ := Kd.R_slice HO169.out
 (first | subst eo11 | (injection eo11 with f1_ f2_ f3_; have f4_ := f1_.symm; have f5_ := f3_.symm; clear f1_ f2_ f3_; subst f4_; subst f5_))
 refine hK.out _ _ ⟨ce BK163 0, ce BK163 1, ce BK163 2, ce BK163 3, ce BK164 0, ce BK164 1, ce BK164 2, ce BK164 3⟩ (fun hHeld => ?_)
 clear hK K
 refine nm ?_
 refine on1 11 (fun K hK => ?_)
 refine gs Try.func55 #[.slice Ao11 y167.length co11] ?_
 with_reducible refine (cmp_Or_int.calls k _ _ y167 t170 _ ?side1 ?side2 A5.out).mono ?_
 (case side1 => repeat (first | exact (Kd.R_reads' HO169.out).2.2 | (with_reducible refine Kd.C_alloc ?_ _) | (with_reducible refine Kd.C_drewN ?_ _) | (with_reducible refine Kd.C_drew ?_)))
 (case side2 => exact (Kd.R_reads' HO169.out).2.1)
 rintro e w' ⟨rfl, ⟨nd, rfl⟩⟩
 refine ⟨_, rfl, ?_⟩
 refine hK.out _ _ ⟨ce BK163 0, ce BK163 1, ce BK163 2, ce BK163 3, ce BK164 0, ce BK164 1, ce BK164 2, ce BK164 3⟩ (fun hHeld => ?_)
 clear hK K
 refine nm ?_
 refine pu 12 ?_
 refine done_ (done_of HT_.out (by kernel_rfl)) ?_
 try go_wp2
 go_ret
 exact ⟨by first | rfl | (simp [errW_none, errW_some] <;> rfl) | (simp [*, errW_none, errW_some] <;> rfl), pb HB⟩

end Go.Proofs.Ytpbiobbddgipkaa.H
