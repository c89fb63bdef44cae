import Derived.Test.YtagcobdpojeiiaaHx0
import Derived.Test.YtagcobdpojeiiaaHx4
namespace Go.Proofs.Ytagcobdpojeiiaa.H
open Go.RowKit Go.Proofs.YtagcobdpojeiiaaW.PrintWords Go.Proofs.YtagcobdpojeiiaaW.PrintLast Go.Proofs.YtagcobdpojeiiaaW.PrintMore Go.Proofs.YtagcobdpojeiiaaW.Sq
attribute [local go_sem] max2_int min2_int max_two min_two max_three min_three max_four min_four
set_option linter.unusedVariables false
set_option linter.unusedSimpArgs false

def sip_Write.l0 : Nat → Int → Int → Int → Int → ByteArray → Int → Option (Int × Int × Int × Int × ByteArray × Int)
 | 0, _, _, _, _, _, _ => none
 | k + 1, x133000, x133001, x133002, x133003, x133004, x133005 => if (x133004.size : Int) ≥ 8 then (if 0 ≤ 8 then (if 8 ≤ (x133004.size : Int) then ((sip_number.f k (x133004.extract 0 8)).bind fun t135 => ((sip_take.f x133000 x133001 x133002 x133003 t135).bind fun bt136 => (sip_Write.l0 k bt136.1 bt136.2.1 bt136.2.2.1 bt136.2.2.2 (x133004.extract 8 x133004.size) x133005))) else (none)) else (none)) else (some (x133000, x133001, x133002, x133003, x133004, x133005))
def sip_Write.f (k : Nat) (a0_0 : Int) (a0_1 : Int) (a0_2 : Int) (a0_3 : Int) (a0_4 : ByteArray) (a0_5 : Int) (a1 : ByteArray) : Option (Int × Int × Int × Int × ByteArray × Int) := (sip_right.f a0_0 a0_1 a0_2 a0_3 a0_4 a0_5).bind fun t134 => (if t134 = true then (if a0_4.size + a1.size ≤ 9223372036854775807 then (sip_Write.l0 k a0_0 a0_1 a0_2 a0_3 (a0_4 ++ a1) (wrap64 (a0_5 + (a1.size : Int)))) else (none)) else (some (a0_0, a0_1, a0_2, a0_3, a0_4, a0_5)))
theorem sip_Write.mono_l : ∀ k, (∀ y0 y1 y2 y3 y4 y5, LeO (sip_Write.l0 k y0 y1 y2 y3 y4 y5) (sip_Write.l0 (k + 1) y0 y1 y2 y3 y4 y5))
 | 0 => fun _ _ _ _ _ _ r h => by simp [sip_Write.l0] at h
 | k + 1 => by
  have ih0 := sip_Write.mono_l k
  ·intro y0 y1 y2 y3 y4 y5
   unfold sip_Write.l0
   repeat' first
   | (with_reducible exact ih0 _ _ _ _ _ _)
   | (with_reducible exact sip_number.mono _ _)
   | (with_reducible exact LeO.refl _)
   | (with_reducible exact LeO.none _)
   | (with_reducible refine LeO.ite ?_ ?_)
   | (with_reducible refine LeO.bind ?_ (fun _ => ?_))
theorem sip_Write.mono : ∀ a0 a1 a2 a3 a4 a5 a6 k, LeO (sip_Write.f k a0 a1 a2 a3 a4 a5 a6) (sip_Write.f (k + 1) a0 a1 a2 a3 a4 a5 a6) := by
 intro a0 a1 a2 a3 a4 a5 a6 k
 have ih0 := sip_Write.mono_l k
 unfold sip_Write.f
 repeat' first
   | (with_reducible exact ih0 _ _ _ _ _ _)
   | (with_reducible exact sip_number.mono _ _)
   | (with_reducible exact LeO.refl _)
   | (with_reducible exact LeO.none _)
   | (with_reducible refine LeO.ite ?_ ?_)
   | (with_reducible refine LeO.bind ?_ (fun _ => ?_))
def sip_Write.T6 : Bool × List (List Nat × List Nat) := (true, [([], []), ([0], [0]), ([], []), ([2], [2]), ([3], [3]), ([4], [4]), ([1, 5, 5], [1, 5]), ([0, 1, 2, 3, 4, 5, 6], []), ([7, 6, 6, 0, 1, 2, 3, 4, 5, 6], [6, 7])])
def sip_Write.B6 : List Nat := [0, 1, 0, 4, 12, 28, 63, 127, 255]
theorem sip_Write.tab6 : rtab .any (opsOf Try.f57 6) = sip_Write.T6 := by kernel_rfl
theorem sip_Write.bits6 : waitsOk sip_Write.T6.2 sip_Write.B6 = true := by kernel_rfl
set_option maxHeartbeats 8000000 in
set_option maxRecDepth 100000 in
theorem sip_Write.calls (k : Nat) (a0_0 : Int) (a0_1 : Int) (a0_2 : Int) (a0_3 : Int) (a0_4 : ByteArray) (a0_5 : Int) (a1 : ByteArray) (r1 : Int) (r2 : Int) (r3 : Int) (r4 : Int) (r5 : ByteArray) (r6 : Int) (w : World) (h : sip_Write.f k a0_0 a0_1 a0_2 a0_3 a0_4 a0_5 a1 = some (r1, r2, r3, r4, r5, r6)) :
  Calls Try.prog 57 #[.agg #[.int .u64 a0_0, .int .u64 a0_1, .int .u64 a0_2, .int .u64 a0_3, .string a0_4, .int .i64 a0_5], .string a1] w fun e w' => e = .returned (.agg #[.int .u64 r1, .int .u64 r2, .int .u64 r3, .int .u64 r4, .string r5, .int .i64 r6]) ∧ Below w.heap.size w w' := by
 have hu116 := Try.underlying116;have hu114 := Try.underlying114;have HB := am (Below.refl w.heap.size w);have H : ((sip_right.f a0_0 a0_1 a0_2 a0_3 a0_4 a0_5).bind fun t134 => (if t134 = true then (if a0_4.size + a1.size ≤ 9223372036854775807 then (sip_Write.l0 k a0_0 a0_1 a0_2 a0_3 (a0_4 ++ a1) (wrap64 (a0_5 + (a1.size : Int)))) else (none)) else (some (a0_0, a0_1, a0_2, a0_3, a0_4, a0_5)))) = some (r1, r2, r3, r4, r5, r6) := h;clear h;replace H := Option.bind_eq_some_iff.mp H;obtain ⟨t134, A30, H⟩ := H
 try dsimp only at H
 have A3 := am A30;clear A30
 by_cases c4 : t134 = true
 rotate_left
 ·replace c4 := Bool.eq_false_iff.mpr c4;subst c4
  have H1 : (some (a0_0, a0_1, a0_2, a0_3, a0_4, a0_5)) = some (r1, r2, r3, r4, r5, r6) := by rw [if_neg (show ¬ (false = true) by decide)] at H; exact H
  clear H;have H := H1;clear H1
  simp only [Option.some.injEq, Prod.mk.injEq] at H
  obtain ⟨rfl, rfl, rfl, rfl, rfl, rfl⟩ := H
  go_enter Try.func57, Try.ntmps57
  go_wp2_with (first | ((with_reducible refine gate_dst (N := 2) rfl ?_); refine be 2 #[.int .u64 a0_0, .int .u64 a0_1, .int .u64 a0_2, .int .u64 a0_3, .string a0_4, .int .i64 a0_5] 116 ?_; intro gb132 hg w30 hbox hb; have BK132 := am (hbox); have GW132 := gq hg HB; have GE132 := gq hg HB; replace HB := lb HB hb; clear hb hbox hg) | ((with_reducible refine gate_dst (N := 4) rfl ?_); refine be 4 #[.int .u64 0, .int .u64 0, .int .u64 0, .int .u64 0, .string (⟨#[]⟩ : ByteArray), .int .i64 0] 116 ?_; intro gb133 hg w31 hbox hb; have BK133 := am (hbox); have GW133 := gq hg HB; have GE133 := gq hg HB; replace HB := lb HB hb; obtain ⟨NB132_133, NB133_132, hnb32, hnc32⟩ := pm hg BK132; replace BK132 := kb BK132 hb; clear hb hbox hg; obtain ⟨hcz33_0, hcz33_1, hcz33_2, hcz33_3, hcz33_4, hcz33_5, hfz33_0, hfz33_1, hfz33_2, hfz33_3, hfz33_4, hfz33_5⟩ := g6 BK132) | ((with_reducible refine gate_callee (f := 81) rfl ?_); refine gl (some 6) Try.func81 #[.agg #[.int .u64 a0_0, .int .u64 a0_1, .int .u64 a0_2, .int .u64 a0_3, .string a0_4, .int .i64 a0_5]] ?_; (with_reducible refine (sip_right.calls a0_0 a0_1 a0_2 a0_3 a0_4 a0_5 false _ A3.out).mono ?_); rintro e w34 ⟨rfl, hb⟩; refine ⟨_, rfl, ?_⟩; replace BK132 := kb BK132 hb; replace BK133 := kb BK133 hb; replace HB := lb HB hb; (try clear hb); (try clear hb2); (try clear hk); (try clear hi); obtain ⟨hcz35_0, hcz35_1, hcz35_2, hcz35_3, hcz35_4, hcz35_5, hfz35_0, hfz35_1, hfz35_2, hfz35_3, hfz35_4, hfz35_5⟩ := g6 BK132; obtain ⟨hcz36_0, hcz36_1, hcz36_2, hcz36_3, hcz36_4, hcz36_5, hfz36_0, hfz36_1, hfz36_2, hfz36_3, hfz36_4, hfz36_5⟩ := g6 BK133))
  refine bodyPost_ret (results_cell_row rfl _ _ gb133 116 #[.int .u64 a0_0, .int .u64 a0_1, .int .u64 a0_2, .int .u64 a0_3, .string a0_4, .int .i64 a0_5] (0, 0) _ rfl ((s6 rfl BK133).out) Try.underlying116 rfl (by kernel_rfl)) rfl ?_
  exact ey (h := pb HB)
 subst c4
 have H1 : (if a0_4.size + a1.size ≤ 9223372036854775807 then (sip_Write.l0 k a0_0 a0_1 a0_2 a0_3 (a0_4 ++ a1) (wrap64 (a0_5 + (a1.size : Int)))) else (none)) = some (r1, r2, r3, r4, r5, r6) := by rw [if_pos rfl] at H; exact H
 clear H;have H := H1;clear H1
 by_cases c5 : a0_4.size + a1.size ≤ 9223372036854775807
 rotate_left
 ·rw [if_neg c5] at H;exact absurd H (by simp)
 rw [if_pos c5] at H;have c5b0 := eq_true c5;have c5b1 : decide (a0_4.size + a1.size ≤ 9223372036854775807) = true := decide_eq_true c5
 try have c5b2 : (9223372036854775807 < a0_4.size + a1.size) = False := eq_false (Nat.not_lt.2 c5)
 have H' := am H;clear H
 go_enter Try.func57, Try.ntmps57
 go_wp2_with (first | ((with_reducible refine gate_dst (N := 2) rfl ?_); refine be 2 #[.int .u64 a0_0, .int .u64 a0_1, .int .u64 a0_2, .int .u64 a0_3, .string a0_4, .int .i64 a0_5] 116 ?_; intro gb132 hg w6 hbox hb; have BK132 := am (hbox); have GW132 := gq hg HB; have GE132 := gq hg HB; replace HB := lb HB hb; clear hb hbox hg) | ((with_reducible refine gate_dst (N := 4) rfl ?_); refine be 4 #[.int .u64 0, .int .u64 0, .int .u64 0, .int .u64 0, .string (⟨#[]⟩ : ByteArray), .int .i64 0] 116 ?_; intro gb133 hg w7 hbox hb; have BK133 := am (hbox); have GW133 := gq hg HB; have GE133 := gq hg HB; replace HB := lb HB hb; obtain ⟨NB132_133, NB133_132, hnb8, hnc8⟩ := pm hg BK132; replace BK132 := kb BK132 hb; clear hb hbox hg; obtain ⟨hcz9_0, hcz9_1, hcz9_2, hcz9_3, hcz9_4, hcz9_5, hfz9_0, hfz9_1, hfz9_2, hfz9_3, hfz9_4, hfz9_5⟩ := g6 BK132) | ((with_reducible refine gate_callee (f := 81) rfl ?_); refine gl (some 6) Try.func81 #[.agg #[.int .u64 a0_0, .int .u64 a0_1, .int .u64 a0_2, .int .u64 a0_3, .string a0_4, .int .i64 a0_5]] ?_; (with_reducible refine (sip_right.calls a0_0 a0_1 a0_2 a0_3 a0_4 a0_5 true _ A3.out).mono ?_); rintro e w10 ⟨rfl, hb⟩; refine ⟨_, rfl, ?_⟩; replace BK132 := kb BK132 hb; replace BK133 := kb BK133 hb; replace HB := lb HB hb; (try clear hb); (try clear hb2); (try clear hk); (try clear hi); obtain ⟨hcz11_0, hcz11_1, hcz11_2, hcz11_3, hcz11_4, hcz11_5, hfz11_0, hfz11_1, hfz11_2, hfz11_3, hfz11_4, hfz11_5⟩ := g6 BK132))
 go_loopg [] k (fun kq w' => ∃ (x133000_1 : Int) (x133001_1 : Int) (x133002_1 : Int) (x133003_1 : Int) (x133004_1 : ByteArray), Aside0 (sip_Write.l0 kq x133000_1 x133001_1 x133002_1 x133003_1 x133004_1 (wrap64 (a0_5 + (a1.size : Int))) = some (r1, r2, r3, r4, r5, r6)) ∧ Aside0 (kq ≤ k) ∧ Aside0 (w'.heap[gb132]? = some (.cells #[.int .u64 x133000_1, .int .u64 x133001_1, .int .u64 x133002_1, .int .u64 x133003_1, .string x133004_1, .int .i64 (wrap64 (a0_5 + (a1.size : Int)))] 116 (0, 0))) ∧ Aside0 (w'.heap[gb133]? = some (.cells #[.int .u64 0, .int .u64 0, .int .u64 0, .int .u64 0, .string (⟨#[]⟩ : ByteArray), .int .i64 0] 116 (0, 0))) ∧ Aside0 (Below w.heap.size w w'))
 case atStart => exact ⟨(a0_0), (a0_1), (a0_2), (a0_3), (a0_4 ++ a1), H', ⟨Nat.le_refl _⟩, ⟨by refine pk ?_; refine blk_put (cs := #[.int .u64 a0_0, .int .u64 a0_1, .int .u64 a0_2, .int .u64 a0_3, .string a0_4, .int .i64 (wrap64 (a0_5 + (a1.size : Int)))]) ?_ 4 _ rfl; refine pk ?_; refine blk_put (cs := #[.int .u64 a0_0, .int .u64 a0_1, .int .u64 a0_2, .int .u64 a0_3, .string a0_4, .int .i64 a0_5]) ?_ 5 _ rfl; refine pk ?_; exact BK132.out⟩, ⟨(bf (f2 rfl) BK133 NB133_132.out).out⟩, ⟨pb HB⟩⟩
 case round =>
  clear H';(try clear p2);(try clear c4);(try clear c5);(try clear c5b0);(try clear c5b1);(try clear c5b2);(try clear p6);(try clear c8);(try clear hcz11_0 hcz11_1 hcz11_2 hcz11_3 hcz11_4 hcz11_5);(try clear hcz9_0 hcz9_1 hcz9_2 hcz9_3 hcz9_4 hcz9_5);(try clear hfz11_0 hfz11_1 hfz11_2 hfz11_3 hfz11_4 hfz11_5);(try clear hfz9_0 hfz9_1 hfz9_2 hfz9_3 hfz9_4 hfz9_5);obtain ⟨x133000_1, x133001_1, x133002_1, x133003_1, x133004_1, HA, HK1, BK132, BK133, HB⟩ := hrel
  cases gk with
  | zero => exact absurd HA.out (by simp [sip_Write.l0])
  | succ k1 =>
   have H := HA.out;clear HA
   simp only [sip_Write.l0] at H
   by_cases c12 : (x133004_1.size : Int) ≥ 8
   ·rw [if_pos c12] at H;have c12b0 : decide (8 ≤ (x133004_1.size : Int)) = true := decide_eq_true c12;have c12b1 : decide (8 ≤ x133004_1.size) = true := decide_eq_true (by omega);clear c12
    by_cases c13 : 0 ≤ 8
    ·rw [if_pos c13] at H;have c13b0 := eq_true c13;have c13b1 : decide (0 ≤ 8) = true := decide_eq_true c13;clear c13
     by_cases c14 : 8 ≤ (x133004_1.size : Int)
     ·rw [if_pos c14] at H;have c14b0 := eq_true c14;have c14b1 : decide (8 ≤ (x133004_1.size : Int)) = true := decide_eq_true c14;clear c14;replace H := Option.bind_eq_some_iff.mp H;obtain ⟨t135, A150, H⟩ := H
      try dsimp only at H
      have A15 := am A150;clear A150;replace H := Option.bind_eq_some_iff.mp H;obtain ⟨⟨t136, t137, t138, t139⟩, A160, H⟩ := H
      try dsimp only at H
      have A16 := am A160;clear A160;have c17b0 := eq_true (od : 8 ≤ (x133004_1.size : Int));have H' := am H;clear H;have hnb18 := NB132_133.out;have hnc18 := NB133_132.out;obtain ⟨hcz19_0, hcz19_1, hcz19_2, hcz19_3, hcz19_4, hcz19_5, hfz19_0, hfz19_1, hfz19_2, hfz19_3, hfz19_4, hfz19_5⟩ := g6 BK132
      try go_wp2
      replace BK132 := am (blk_drew BK132.out);replace BK133 := am (blk_drew BK133.out);replace HB := am (below_drew1 HB.out)
      refine start_ (n := 9) (S := fun w' => w'.cell? ⟨gb132, 0, none⟩ = some (.int .u64 x133000_1) ∧ w'.cell? ⟨gb132, 1, none⟩ = some (.int .u64 x133001_1) ∧ w'.cell? ⟨gb132, 2, none⟩ = some (.int .u64 x133002_1) ∧ w'.cell? ⟨gb132, 3, none⟩ = some (.int .u64 x133003_1) ∧ w'.cell? ⟨gb132, 4, none⟩ = some (.string x133004_1) ∧ w'.cell? ⟨gb132, 5, none⟩ = some (.int .i64 (wrap64 (a0_5 + (a1.size : Int))))) (ds := [8]) #[false, false, false, false, false, false, false, false, false] (by kernel_rfl) rfl rfl (Q6 BK132) (fun hHeld => ?_); refine with_tabW sip_Write.tab6 sip_Write.bits6 (fun HT_ HW_ => ?_)
      generalize wr.drew = w20 at BK132 BK133 HB hHeld ⊢
      refine pu 0 ?_;refine pu 2 ?_;refine ta 1 hHeld ?_;refine ta 3 hHeld ?_;refine pu 4 ?_
      refine on1 5 (fun K hK => ?_)
      refine gs Try.func83 #[.string (x133004_1.extract 0 8)] ?_
      with_reducible refine (sip_number.calls k1 (x133004_1.extract 0 8) t135 _ A15.out).mono ?_
      rintro e w' ⟨rfl, ⟨nd, rfl⟩⟩
      refine ⟨_, rfl, ?_⟩
      refine hK.out _ _ (Q6 BK132) (fun hHeld => ?_)
      clear hK K;refine nm ?_
      refine on1 6 (fun K hK => ?_)
      refine gs Try.func82 #[.agg #[.int .u64 x133000_1, .int .u64 x133001_1, .int .u64 x133002_1, .int .u64 x133003_1], .int .u64 t135] ?_
      with_reducible refine (sip_take.calls x133000_1 x133001_1 x133002_1 x133003_1 t135 t136 t137 t138 t139 _ A16.out).mono ?_
      rintro e w21 ⟨rfl, hb⟩
      refine ⟨_, rfl, ?_⟩
      replace BK132 := kb BK132 hb;replace BK133 := kb BK133 hb;replace HB := lb HB hb
      (try clear hb)
      (try clear hb2)
      (try clear hk)
      (try clear hi)
      refine hK.out _ _ (Q6 BK132) (fun hHeld => ?_)
      clear hK K;refine nm ?_;refine pu 7 ?_
      refine last_ (i := 8) (N := none) #[true, true, true, true, true, true, true, true, true] rfl rfl (one_of HT_.out (by kernel_rfl)) (by decide) (fun K hK => ?_)
      have hs22 : w21.cell? ⟨gb132, 0, none⟩ = some (.int .u64 x133000_1) := ce BK132 0;have hfs22 := blk_frozen BK132.out 0;have hns22_1 := NB133_132.out;have hms22_1 := NB132_133.out;have hs23 : w21.cell? ⟨gb132, 1, none⟩ = some (.int .u64 x133001_1) := ce BK132 1;have hfs23 := blk_frozen BK132.out 1;have hns23_1 := NB133_132.out;have hms23_1 := NB132_133.out;have hs24 : w21.cell? ⟨gb132, 2, none⟩ = some (.int .u64 x133002_1) := ce BK132 2;have hfs24 := blk_frozen BK132.out 2;have hns24_1 := NB133_132.out;have hms24_1 := NB132_133.out;have hs25 : w21.cell? ⟨gb132, 3, none⟩ = some (.int .u64 x133003_1) := ce BK132 3;have hfs25 := blk_frozen BK132.out 3;have hns25_1 := NB133_132.out;have hms25_1 := NB132_133.out
      refine skip_ (w1 := ?_) (by rfl) rfl ?_ ?_
      rotate_left
      ·go_simp
       rfl
      refine hK.out _ _ ?_
      clear hK K
      refine done_ (done_of HT_.out (by kernel_rfl)) ?_
      obtain ⟨hcz26_0, hcz26_1, hcz26_2, hcz26_3, hcz26_4, hcz26_5, hfz26_0, hfz26_1, hfz26_2, hfz26_3, hfz26_4, hfz26_5⟩ := g6 BK132
      try go_wp2
      go_roundg k1
      case measure => have := HK1.out; omega
      case rel => exact ⟨(t136), (t137), (t138), (t139), (x133004_1.extract 8 x133004_1.size), H', ⟨by have := HK1.out; omega⟩, ⟨by refine pk ?_; refine blk_put (cs := #[.int .u64 t136, .int .u64 t137, .int .u64 t138, .int .u64 t139, .string x133004_1, .int .i64 (wrap64 (a0_5 + (a1.size : Int)))]) ?_ 4 _ rfl; refine pk ?_; refine blk_put (cs := #[.int .u64 t136, .int .u64 t137, .int .u64 t138, .int .u64 x133003_1, .string x133004_1, .int .i64 (wrap64 (a0_5 + (a1.size : Int)))]) ?_ 3 _ rfl; refine pk ?_; refine blk_put (cs := #[.int .u64 t136, .int .u64 t137, .int .u64 x133002_1, .int .u64 x133003_1, .string x133004_1, .int .i64 (wrap64 (a0_5 + (a1.size : Int)))]) ?_ 2 _ rfl; refine pk ?_; refine blk_put (cs := #[.int .u64 t136, .int .u64 x133001_1, .int .u64 x133002_1, .int .u64 x133003_1, .string x133004_1, .int .i64 (wrap64 (a0_5 + (a1.size : Int)))]) ?_ 1 _ rfl; refine pk ?_; refine blk_put (cs := #[.int .u64 x133000_1, .int .u64 x133001_1, .int .u64 x133002_1, .int .u64 x133003_1, .string x133004_1, .int .i64 (wrap64 (a0_5 + (a1.size : Int)))]) ?_ 0 _ rfl; refine pk ?_; exact BK132.out⟩, ⟨(bf (f5 rfl) BK133 NB133_132.out).out⟩, ⟨pb HB⟩⟩
     ·rw [if_neg c14] at H;exact absurd H (by simp)
    ·rw [if_neg c13] at H;exact absurd H (by simp)
   ·rw [if_neg c12] at H;have c12b0 : decide (8 ≤ (x133004_1.size : Int)) = false := decide_eq_false c12;have c12b1 : decide (8 ≤ x133004_1.size) = false := decide_eq_false (by omega);clear c12
    simp only [Option.some.injEq, Prod.mk.injEq] at H
    obtain ⟨rfl, rfl, rfl, rfl, rfl, rfl⟩ := H;have hnb27 := NB132_133.out;have hnc27 := NB133_132.out;obtain ⟨hcz28_0, hcz28_1, hcz28_2, hcz28_3, hcz28_4, hcz28_5, hfz28_0, hfz28_1, hfz28_2, hfz28_3, hfz28_4, hfz28_5⟩ := g6 BK132;obtain ⟨hcz29_0, hcz29_1, hcz29_2, hcz29_3, hcz29_4, hcz29_5, hfz29_0, hfz29_1, hfz29_2, hfz29_3, hfz29_4, hfz29_5⟩ := g6 BK133
    go_wp2
    refine bodyPost_ret (results_cell_row rfl _ _ gb133 116 #[.int .u64 x133000_1, .int .u64 x133001_1, .int .u64 x133002_1, .int .u64 x133003_1, .string x133004_1, .int .i64 (wrap64 (a0_5 + (a1.size : Int)))] (0, 0) _ rfl ((s6 rfl BK133).out) Try.underlying116 rfl (by kernel_rfl)) rfl ?_
    exact ey (h := pb HB)
def sip_New.f (a0_0 : Int) (a0_1 : Int) : Option (Int × Int × Int × Int × ByteArray × Int) := some (Go.bits .xor .u64 a0_0 8317987319222330741, Go.bits .xor .u64 a0_1 7237128888997146477, Go.bits .xor .u64 a0_0 7816392313619706465, Go.bits .xor .u64 a0_1 8387220255154660723, (⟨#[]⟩ : ByteArray), 0)
set_option maxHeartbeats 8000000 in
set_option maxRecDepth 100000 in
theorem sip_New.calls (a0_0 : Int) (a0_1 : Int) (r1 : Int) (r2 : Int) (r3 : Int) (r4 : Int) (r5 : ByteArray) (r6 : Int) (w : World) (h : sip_New.f a0_0 a0_1 = some (r1, r2, r3, r4, r5, r6)) :
  Calls Try.prog 58 #[.agg #[.int .u64 a0_0, .int .u64 a0_1]] w fun e w' => e = .returned (.agg #[.int .u64 r1, .int .u64 r2, .int .u64 r3, .int .u64 r4, .string r5, .int .i64 r6]) ∧ Below w.heap.size w w' := by
 have hu24 := Try.underlying24;have hu116 := Try.underlying116;have hu114 := Try.underlying114;have HB := am (Below.refl w.heap.size w);have H : (some (Go.bits .xor .u64 a0_0 8317987319222330741, Go.bits .xor .u64 a0_1 7237128888997146477, Go.bits .xor .u64 a0_0 7816392313619706465, Go.bits .xor .u64 a0_1 8387220255154660723, (⟨#[]⟩ : ByteArray), 0)) = some (r1, r2, r3, r4, r5, r6) := h;clear h
 simp only [Option.some.injEq, Prod.mk.injEq] at H
 obtain ⟨rfl, rfl, rfl, rfl, rfl, rfl⟩ := H
 go_enter Try.func58, Try.ntmps58
 go_wp2_with (first | ((with_reducible refine gate_dst (N := 1) rfl ?_); refine be 1 #[.int .u64 a0_0, .int .u64 a0_1] 24 ?_; intro gb140 hg w2 hbox hb; have BK140 := am (hbox); have GW140 := gq hg HB; have GE140 := gq hg HB; replace HB := lb HB hb; clear hb hbox hg) | ((with_reducible refine gate_dst (N := 2) rfl ?_); refine be 2 #[.int .u64 0, .int .u64 0, .int .u64 0, .int .u64 0, .string (⟨#[]⟩ : ByteArray), .int .i64 0] 116 ?_; intro gb141 hg w3 hbox hb; have BK141 := am (hbox); have GW141 := gq hg HB; have GE141 := gq hg HB; replace HB := lb HB hb; obtain ⟨NB140_141, NB141_140, hnb4, hnc4⟩ := pm hg BK140; replace BK140 := kb BK140 hb; clear hb hbox hg; obtain ⟨hcz5_0, hcz5_1, hfz5_0, hfz5_1⟩ := g2 BK140; obtain ⟨hcz6_0, hcz6_1, hcz6_2, hcz6_3, hcz6_4, hcz6_5, hfz6_0, hfz6_1, hfz6_2, hfz6_3, hfz6_4, hfz6_5⟩ := g6 BK141))
 refine bodyPost_ret (results_cell_row rfl _ _ gb141 116 #[.int .u64 (Go.bits .xor .u64 a0_0 8317987319222330741), .int .u64 (Go.bits .xor .u64 a0_1 7237128888997146477), .int .u64 (Go.bits .xor .u64 a0_0 7816392313619706465), .int .u64 (Go.bits .xor .u64 a0_1 8387220255154660723), .string (⟨#[]⟩ : ByteArray), .int .i64 0] (0, 0) _ rfl ((s6 rfl BK141).out) Try.underlying116 rfl (by kernel_rfl)) rfl ?_
 exact ey (h := pb HB)

def sip_Sum.f (k : Nat) (a0_0 : Int) (a0_1 : Int) (a1 : ByteArray) : Option (Int) := (sip_New.f a0_0 a0_1).bind fun bt143 => ((sip_Write.f k bt143.1 bt143.2.1 bt143.2.2.1 bt143.2.2.2.1 bt143.2.2.2.2.1 bt143.2.2.2.2.2 a1).bind fun bt149 => ((sip_Done.f k bt149.1 bt149.2.1 bt149.2.2.1 bt149.2.2.2.1 bt149.2.2.2.2.1 bt149.2.2.2.2.2).bind fun t155 => (some t155)))
theorem sip_Sum.mono : ∀ a0 a1 a2 k, LeO (sip_Sum.f k a0 a1 a2) (sip_Sum.f (k + 1) a0 a1 a2) := by
 intro a0 a1 a2 k
 unfold sip_Sum.f
 repeat' first
   | (with_reducible exact sip_Done.mono _ _ _ _ _ _ _)
   | (with_reducible exact sip_Write.mono _ _ _ _ _ _ _ _)
   | (with_reducible exact LeO.refl _)
   | (with_reducible exact LeO.none _)
   | (with_reducible refine LeO.ite ?_ ?_)
   | (with_reducible refine LeO.bind ?_ (fun _ => ?_))
set_option maxHeartbeats 8000000 in
set_option maxRecDepth 100000 in
theorem sip_Sum.calls (k : Nat) (a0_0 : Int) (a0_1 : Int) (a1 : ByteArray) (r : Int) (w : World) (h : sip_Sum.f k a0_0 a0_1 a1 = some r) :
  Calls Try.prog 35 #[.agg #[.int .u64 a0_0, .int .u64 a0_1], .string a1] w fun e w' => e = .returned (.int .u64 r) ∧ Below w.heap.size w w' := by
 have hu24 := Try.underlying24;have HB := am (Below.refl w.heap.size w);have H : ((sip_New.f a0_0 a0_1).bind fun bt143 => ((sip_Write.f k bt143.1 bt143.2.1 bt143.2.2.1 bt143.2.2.2.1 bt143.2.2.2.2.1 bt143.2.2.2.2.2 a1).bind fun bt149 => ((sip_Done.f k bt149.1 bt149.2.1 bt149.2.2.1 bt149.2.2.2.1 bt149.2.2.2.2.1 bt149.2.2.2.2.2).bind fun t155 => (some t155)))) = some r := h;clear h;replace H := Option.bind_eq_some_iff.mp H;obtain ⟨⟨t143, t144, t145, t146, t147, t148⟩, A30, H⟩ := H
 try dsimp only at H
 have A3 := am A30;clear A30;replace H := Option.bind_eq_some_iff.mp H;obtain ⟨⟨t149, t150, t151, t152, t153, t154⟩, A40, H⟩ := H
 try dsimp only at H
 have A4 := am A40;clear A40;replace H := Option.bind_eq_some_iff.mp H;obtain ⟨t155, A50, H⟩ := H
 try dsimp only at H
 have A5 := am A50;clear A50;obtain rfl := Option.some.inj H
 go_enter Try.func35, Try.ntmps35
 go_wp2_with (first | ((with_reducible refine gate_dst (N := 2) rfl ?_); refine be 2 #[.int .u64 a0_0, .int .u64 a0_1] 24 ?_; intro gb142 hg w6 hbox hb; have BK142 := am (hbox); have GW142 := gq hg HB; have GE142 := gq hg HB; replace HB := lb HB hb; clear hb hbox hg; obtain ⟨hcz7_0, hcz7_1, hfz7_0, hfz7_1⟩ := g2 BK142) | ((with_reducible refine gate_callee (f := 58) rfl ?_); refine gl (some 6) Try.func58 #[.agg #[.int .u64 a0_0, .int .u64 a0_1]] ?_; (with_reducible refine (sip_New.calls a0_0 a0_1 t143 t144 t145 t146 t147 t148 _ A3.out).mono ?_); rintro e w8 ⟨rfl, hb⟩; refine ⟨_, rfl, ?_⟩; replace BK142 := kb BK142 hb; replace HB := lb HB hb; (try clear hb); (try clear hb2); (try clear hk); (try clear hi)) | ((with_reducible refine gate_callee (f := 57) rfl ?_); refine gl (some 8) Try.func57 #[.agg #[.int .u64 t143, .int .u64 t144, .int .u64 t145, .int .u64 t146, .string t147, .int .i64 t148], .string a1] ?_; (with_reducible refine (sip_Write.calls k t143 t144 t145 t146 t147 t148 a1 t149 t150 t151 t152 t153 t154 _ A4.out).mono ?_); rintro e w9 ⟨rfl, hb⟩; refine ⟨_, rfl, ?_⟩; replace BK142 := kb BK142 hb; replace HB := lb HB hb; (try clear hb); (try clear hb2); (try clear hk); (try clear hi)) | ((with_reducible refine gate_callee (f := 56) rfl ?_); refine gl (some 9) Try.func56 #[.agg #[.int .u64 t149, .int .u64 t150, .int .u64 t151, .int .u64 t152, .string t153, .int .i64 t154]] ?_; (with_reducible refine (sip_Done.calls k t149 t150 t151 t152 t153 t154 t155 _ A5.out).mono ?_); rintro e w10 ⟨rfl, hb⟩; refine ⟨_, rfl, ?_⟩; replace BK142 := kb BK142 hb; replace HB := lb HB hb; (try clear hb); (try clear hb2); (try clear hk); (try clear hi)))
 go_ret
 exact ey (h := pb HB)

def t_named.f (k : Nat) (a0_0 : Int) (a0_1 : Int) (a0_2 : Int) (a0_3 : Int) (a0_4 : Int) (a0_5 : Int) (l0_6 : List (S63)) (a1 : ByteArray) (a2 : Int) : Option (Bool) := if (a1.size : Int) ≤ 64 then ((sip_Sum.f k a0_0 a0_1 a1).bind fun t157 => (some (t157 == a2))) else (some false)
theorem t_named.mono : ∀ a0 a1 a2 a3 a4 a5 a6 a7 a8 k, LeO (t_named.f k a0 a1 a2 a3 a4 a5 a6 a7 a8) (t_named.f (k + 1) a0 a1 a2 a3 a4 a5 a6 a7 a8) := by
 intro a0 a1 a2 a3 a4 a5 a6 a7 a8 k
 unfold t_named.f
 repeat' first
   | (with_reducible exact sip_Sum.mono _ _ _ _)
   | (with_reducible exact LeO.refl _)
   | (with_reducible exact LeO.none _)
   | (with_reducible refine LeO.ite ?_ ?_)
   | (with_reducible refine LeO.bind ?_ (fun _ => ?_))
set_option maxHeartbeats 8000000 in
set_option maxRecDepth 100000 in
theorem t_named.calls (k : Nat) (a0_0 : Int) (a0_1 : Int) (a0_2 : Int) (a0_3 : Int) (a0_4 : Int) (a0_5 : Int) (A0_6 : Option Addr) (c0_6 : Nat) (l0_6 : List (S63)) (a1 : ByteArray) (a2 : Int) (r : Bool) (w : World) (hr0_6 : Kd.C k63 w A0_6 l0_6.length l0_6) (hc0_6 : l0_6.length ≤ c0_6) (h : t_named.f k a0_0 a0_1 a0_2 a0_3 a0_4 a0_5 l0_6 a1 a2 = some r) :
  Calls Try.prog 75 #[.agg #[.int .u64 a0_0, .int .u64 a0_1, .int .i64 a0_2, .int .i64 a0_3, .int .i64 a0_4, .int .i64 a0_5, .slice A0_6 l0_6.length c0_6], .string a1, .int .u64 a2] w fun e w' => e = .returned (.bool r) ∧ Below w.heap.size w w' := by
 have hu27 := Try.underlying27;have hu24 := Try.underlying24;have HR0_6 := am hr0_6;have HC0_6 := am hc0_6;clear hr0_6 hc0_6;have HB := am (Below.refl w.heap.size w);have H : (if (a1.size : Int) ≤ 64 then ((sip_Sum.f k a0_0 a0_1 a1).bind fun t157 => (some (t157 == a2))) else (some false)) = some r := h;clear h
 by_cases c4 : (a1.size : Int) ≤ 64
 rotate_left
 ·rw [if_neg c4] at H;have c4b0 : decide ((a1.size : Int) ≤ 64) = false := decide_eq_false c4;have c4b1 : decide (a1.size ≤ 64) = false := decide_eq_false (by omega);clear c4;obtain rfl := Option.some.inj H
  go_enter Try.func75, Try.ntmps75
  go_wp2_with (first | ((with_reducible refine gate_dst (N := 3) rfl ?_); refine be 3 #[.int .u64 a0_0, .int .u64 a0_1, .int .i64 a0_2, .int .i64 a0_3, .int .i64 a0_4, .int .i64 a0_5, .slice A0_6 l0_6.length c0_6] 27 ?_; intro gb156 hg w9 hbox hb; have BK156 := am (hbox); have GW156 := gq hg HB; have GE156 := gq hg HB; replace HB := lb HB hb; clear hb hbox hg))
  go_ret
  exact ey (h := pb HB)
 rw [if_pos c4] at H;have c4b0 : decide ((a1.size : Int) ≤ 64) = true := decide_eq_true c4;have c4b1 : decide (a1.size ≤ 64) = true := decide_eq_true (by omega);clear c4;replace H := Option.bind_eq_some_iff.mp H;obtain ⟨t157, A50, H⟩ := H
 try dsimp only at H
 have A5 := am A50;clear A50;obtain rfl := Option.some.inj H
 go_enter Try.func75, Try.ntmps75
 go_wp2_with (first | ((with_reducible refine gate_dst (N := 3) rfl ?_); refine be 3 #[.int .u64 a0_0, .int .u64 a0_1, .int .i64 a0_2, .int .i64 a0_3, .int .i64 a0_4, .int .i64 a0_5, .slice A0_6 l0_6.length c0_6] 27 ?_; intro gb156 hg w6 hbox hb; have BK156 := am (hbox); have GW156 := gq hg HB; have GE156 := gq hg HB; replace HB := lb HB hb; clear hb hbox hg; obtain ⟨hcz7_0, hcz7_1, hcz7_2, hcz7_3, hcz7_4, hcz7_5, hcz7_6, hfz7_0, hfz7_1, hfz7_2, hfz7_3, hfz7_4, hfz7_5, hfz7_6⟩ := g7 BK156) | (go_at_call 35; (with_reducible refine (sip_Sum.calls k a0_0 a0_1 a1 t157 _ A5.out).mono ?_); rintro e w8 ⟨rfl, hb⟩; replace BK156 := kb BK156 hb; replace HB := lb HB hb; (try clear hb); (try clear hb2); (try clear hk); (try clear hi)))
 go_ret
 exact ey (h := pb HB)
def cmp_Or_int.l0 : Nat → Int → List Int → Int → Int → Option (Int)
 | 0, _, _, _, _ => none
 | k + 1, x3, x6, x7, x8 => if x8 < x7 then (if 0 ≤ x8 then (if x8 < (x6.length : Int) then (if (rd x6 x8) = x3 then (cmp_Or_int.l0 k x3 x6 x7 (wrap64 (x8 + 1))) else (some (rd x6 x8))) else (none)) else (none)) else (some x3)
def cmp_Or_int.f (k : Nat) (l0 : List Int) : Option (Int) := cmp_Or_int.l0 k 0 l0 (l0.length : Int) 0
theorem cmp_Or_int.mono_l : ∀ k, (∀ y0 y1 y2 y3, LeO (cmp_Or_int.l0 k y0 y1 y2 y3) (cmp_Or_int.l0 (k + 1) y0 y1 y2 y3))
 | 0 => fun _ _ _ _ r h => by simp [cmp_Or_int.l0] at h
 | k + 1 => by
  have ih0 := cmp_Or_int.mono_l k
  ·intro y0 y1 y2 y3
   unfold cmp_Or_int.l0
   repeat' first
   | (with_reducible exact ih0 _ _ _ _)
   | (with_reducible exact LeO.refl _)
   | (with_reducible exact LeO.none _)
   | (with_reducible refine LeO.ite ?_ ?_)
   | (with_reducible refine LeO.bind ?_ (fun _ => ?_))
theorem cmp_Or_int.mono : ∀ a0 k, LeO (cmp_Or_int.f k a0) (cmp_Or_int.f (k + 1) a0) := by
 intro a0 k
 have ih0 := cmp_Or_int.mono_l k
 unfold cmp_Or_int.f
 repeat' first
   | (with_reducible exact ih0 _ _ _ _)
   | (with_reducible exact LeO.refl _)
   | (with_reducible exact LeO.none _)
   | (with_reducible refine LeO.ite ?_ ?_)
   | (with_reducible refine LeO.bind ?_ (fun _ => ?_))
set_option maxHeartbeats 8000000 in
set_option maxRecDepth 100000 in
theorem cmp_Or_int.calls (k : Nat) (A0 : Option Addr) (c0 : Nat) (l0 : List Int) (r : Int) (w : World) (hr0 : Kd.C (Kd.int .i64) w A0 l0.length l0) (hc0 : l0.length ≤ c0) (h : cmp_Or_int.f k l0 = some r) :
  Calls Try.prog 62 #[.slice A0 l0.length c0] w fun e w' => e = .returned (.int .i64 r) ∧ Drawn0 w w' := by
 have HR0 := am hr0;have HC0 := am hc0;clear hr0 hc0;have H : (cmp_Or_int.l0 k 0 l0 (l0.length : Int) 0) = some r := h;clear h;have H' := am H;clear H
 go_enter Try.func62, Try.ntmps62
 go_wp2
 go_loopg [8] k (fun kq v8 w' => ∃ (x8_1 : Int), v8 = .int .i64 x8_1 ∧ Aside0 (cmp_Or_int.l0 kq 0 l0 (l0.length : Int) x8_1 = some r) ∧ Aside0 (kq ≤ k) ∧ Drawn0 w w')
 case atStart => exact ⟨(0), eR, H', ⟨Nat.le_refl _⟩, by repeat (first | exact Drawn0.refl _ | apply Drawn0.step)⟩
 case round =>
  clear H';obtain ⟨x8_1, rfl, HA, HK1, ⟨m1, rfl⟩⟩ := hrel
  cases gk with
  | zero => exact absurd HA.out (by simp [cmp_Or_int.l0])
  | succ k1 =>
   have H := HA.out;clear HA
   simp only [cmp_Or_int.l0] at H
   by_cases c2 : x8_1 < (l0.length : Int)
   ·rw [if_pos c2] at H;have c2b0 : decide (x8_1 < (l0.length : Int)) = true := decide_eq_true c2;clear c2
    by_cases c3 : 0 ≤ x8_1
    ·rw [if_pos c3] at H;have c3b0 : decide (0 ≤ x8_1) = true := decide_eq_true c3;clear c3
     by_cases c4 : x8_1 < (l0.length : Int)
     ·rw [if_pos c4] at H;have c4b0 : decide (x8_1 < (l0.length : Int)) = true := decide_eq_true c4;clear c4
      by_cases c5 : (rd l0 x8_1) = 0
      ·rw [if_pos c5] at H;have c5b0 : ((rd l0 x8_1) == 0) = true := beq_iff_eq.mpr c5;have c5b1 : ((rd l0 x8_1) != 0) = false := bne_eq_false_iff_eq.mpr c5;clear c5;have H' := am H;clear H;have p158 : 0 ≤ (x8_1 : Int) := od;have q158 : x8_1 < (l0.length : Int) := od;obtain ⟨ad158, e158, hx158_0⟩ := Kd.at_int HR0.out x8_1 p158 q158;cases e158;replace p158 := eq_true p158;replace q158 := eq_true q158
       go_wp2
       go_roundg k1
       case measure => have := HK1.out; omega
       case rel => exact ⟨(wrap64 (x8_1 + 1)), eR, H', ⟨by have := HK1.out; omega⟩, by repeat (first | exact Drawn0.refl _ | apply Drawn0.step)⟩
      ·rw [if_neg c5] at H;have c5b0 : ((rd l0 x8_1) == 0) = false := beq_eq_false_iff_ne.mpr c5;have c5b1 : ((rd l0 x8_1) != 0) = true := bne_iff_ne.mpr c5;obtain rfl := Option.some.inj H;have p158 : 0 ≤ (x8_1 : Int) := od;have q158 : x8_1 < (l0.length : Int) := od;obtain ⟨ad158, e158, hx158_0⟩ := Kd.at_int HR0.out x8_1 p158 q158;cases e158;replace p158 := eq_true p158;replace q158 := eq_true q158
       go_wp2
       go_ret
       exact ⟨by first | rfl | (simp; done) | (simp [*]; done), by repeat (first | exact Drawn0.refl _ | apply Drawn0.step)⟩
     ·rw [if_neg c4] at H;exact absurd H (by simp)
    ·rw [if_neg c3] at H;exact absurd H (by simp)
   ·rw [if_neg c2] at H;have c2b0 : decide (x8_1 < (l0.length : Int)) = false := decide_eq_false c2;clear c2;obtain rfl := Option.some.inj H
    go_wp2
    go_ret
    exact ⟨by first | rfl | (simp; done) | (simp [*]; done), by repeat (first | exact Drawn0.refl _ | apply Drawn0.step)⟩
def cmp_isNaN_uint64.f (a0 : Int) : Option (Bool) := some (a0 != a0)
set_option maxHeartbeats 8000000 in
set_option maxRecDepth 100000 in
theorem cmp_isNaN_uint64.calls (a0 : Int) (r : Bool) (w : World) (h : cmp_isNaN_uint64.f a0 = some r) :
  Calls Try.prog 87 #[.int .u64 a0] w fun e w' => e = .returned (.bool r) ∧ Drawn0 w w' := by
 have H : (some (a0 != a0)) = some r := h;clear h;obtain rfl := Option.some.inj H
 go_enter Try.func87, Try.ntmps87
 go_wp2
 go_ret
 exact ⟨by first | rfl | (simp; done) | (simp [*]; done), by repeat (first | exact Drawn0.refl _ | apply Drawn0.step)⟩

def cmp_Compare_uint64.f (a0 : Int) (a1 : Int) : Option (Int) := (cmp_isNaN_uint64.f a0).bind fun t159 => ((cmp_isNaN_uint64.f a1).bind fun t160 => (if t159 = true then (if t160 = true then (some 0) else (some (-1))) else (if t160 = true then (some 1) else (if a0 < a1 then (some (-1)) else (if a0 > a1 then (some 1) else (some 0))))))
set_option maxHeartbeats 8000000 in
set_option maxRecDepth 100000 in
theorem cmp_Compare_uint64.calls (a0 : Int) (a1 : Int) (r : Int) (w : World) (h : cmp_Compare_uint64.f a0 a1 = some r) :
  Calls Try.prog 63 #[.int .u64 a0, .int .u64 a1] w fun e w' => e = .returned (.int .i64 r) ∧ Drawn0 w w' := by
 have H : ((cmp_isNaN_uint64.f a0).bind fun t159 => ((cmp_isNaN_uint64.f a1).bind fun t160 => (if t159 = true then (if t160 = true then (some 0) else (some (-1))) else (if t160 = true then (some 1) else (if a0 < a1 then (some (-1)) else (if a0 > a1 then (some 1) else (some 0))))))) = some r := h;clear h;replace H := Option.bind_eq_some_iff.mp H;obtain ⟨t159, A30, H⟩ := H
 try dsimp only at H
 have A3 := am A30;clear A30;replace H := Option.bind_eq_some_iff.mp H;obtain ⟨t160, A40, H⟩ := H
 try dsimp only at H
 have A4 := am A40;clear A40
 by_cases c5 : t159 = true
 ·subst c5
  have H1 : (if t160 = true then (some 0) else (some (-1))) = some r := by rw [if_pos rfl] at H; exact H
  clear H;have H := H1;clear H1
  by_cases c6 : t160 = true
  ·subst c6
   have H1 : (some 0) = some r := by rw [if_pos rfl] at H; exact H
   clear H;have H := H1;clear H1;obtain rfl := Option.some.inj H
   go_enter Try.func63, Try.ntmps63
   go_wp2_with (first | ((with_reducible refine gate_callee (f := 87) rfl ?_); refine gl (some 8) Try.func87 #[.int .u64 a0] ?_; (with_reducible refine (cmp_isNaN_uint64.calls a0 true _ A3.out).mono ?_); rintro e w' ⟨rfl, ⟨nd, rfl⟩⟩; refine ⟨_, rfl, ?_⟩) | ((with_reducible refine gate_callee (f := 87) rfl ?_); refine gl (some 10) Try.func87 #[.int .u64 a1] ?_; (with_reducible refine (cmp_isNaN_uint64.calls a1 true _ A4.out).mono ?_); rintro e w' ⟨rfl, ⟨nd, rfl⟩⟩; refine ⟨_, rfl, ?_⟩))
   go_ret
   exact ⟨by first | rfl | (simp; done) | (simp [*]; done), by repeat (first | exact Drawn0.refl _ | apply Drawn0.step)⟩
  replace c6 := Bool.eq_false_iff.mpr c6;subst c6
  have H1 : (some (-1)) = some r := by rw [if_neg (show ¬ (false = true) by decide)] at H; exact H
  clear H;have H := H1;clear H1;obtain rfl := Option.some.inj H
  go_enter Try.func63, Try.ntmps63
  go_wp2_with (first | ((with_reducible refine gate_callee (f := 87) rfl ?_); refine gl (some 8) Try.func87 #[.int .u64 a0] ?_; (with_reducible refine (cmp_isNaN_uint64.calls a0 true _ A3.out).mono ?_); rintro e w' ⟨rfl, ⟨nd, rfl⟩⟩; refine ⟨_, rfl, ?_⟩) | ((with_reducible refine gate_callee (f := 87) rfl ?_); refine gl (some 10) Try.func87 #[.int .u64 a1] ?_; (with_reducible refine (cmp_isNaN_uint64.calls a1 false _ A4.out).mono ?_); rintro e w' ⟨rfl, ⟨nd, rfl⟩⟩; refine ⟨_, rfl, ?_⟩))
  go_ret
  exact ⟨by first | rfl | (simp; done) | (simp [*]; done), by repeat (first | exact Drawn0.refl _ | apply Drawn0.step)⟩
 replace c5 := Bool.eq_false_iff.mpr c5;subst c5
 have H1 : (if t160 = true then (some 1) else (if a0 < a1 then (some (-1)) else (if a0 > a1 then (some 1) else (some 0)))) = some r := by rw [if_neg (show ¬ (false = true) by decide)] at H; exact H
 clear H;have H := H1;clear H1
 by_cases c7 : t160 = true
 ·subst c7
  have H1 : (some 1) = some r := by rw [if_pos rfl] at H; exact H
  clear H;have H := H1;clear H1;obtain rfl := Option.some.inj H
  go_enter Try.func63, Try.ntmps63
  go_wp2_with (first | ((with_reducible refine gate_callee (f := 87) rfl ?_); refine gl (some 8) Try.func87 #[.int .u64 a0] ?_; (with_reducible refine (cmp_isNaN_uint64.calls a0 false _ A3.out).mono ?_); rintro e w' ⟨rfl, ⟨nd, rfl⟩⟩; refine ⟨_, rfl, ?_⟩) | ((with_reducible refine gate_callee (f := 87) rfl ?_); refine gl (some 10) Try.func87 #[.int .u64 a1] ?_; (with_reducible refine (cmp_isNaN_uint64.calls a1 true _ A4.out).mono ?_); rintro e w' ⟨rfl, ⟨nd, rfl⟩⟩; refine ⟨_, rfl, ?_⟩))
  go_ret
  exact ⟨by first | rfl | (simp; done) | (simp [*]; done), by repeat (first | exact Drawn0.refl _ | apply Drawn0.step)⟩
 replace c7 := Bool.eq_false_iff.mpr c7;subst c7
 have H1 : (if a0 < a1 then (some (-1)) else (if a0 > a1 then (some 1) else (some 0))) = some r := by rw [if_neg (show ¬ (false = true) by decide)] at H; exact H
 clear H;have H := H1;clear H1
 by_cases c8 : a0 < a1
 ·rw [if_pos c8] at H;have c8b0 : decide (a0 < a1) = true := decide_eq_true c8;clear c8;obtain rfl := Option.some.inj H
  go_enter Try.func63, Try.ntmps63
  go_wp2_with (first | ((with_reducible refine gate_callee (f := 87) rfl ?_); refine gl (some 8) Try.func87 #[.int .u64 a0] ?_; (with_reducible refine (cmp_isNaN_uint64.calls a0 false _ A3.out).mono ?_); rintro e w' ⟨rfl, ⟨nd, rfl⟩⟩; refine ⟨_, rfl, ?_⟩) | ((with_reducible refine gate_callee (f := 87) rfl ?_); refine gl (some 10) Try.func87 #[.int .u64 a1] ?_; (with_reducible refine (cmp_isNaN_uint64.calls a1 false _ A4.out).mono ?_); rintro e w' ⟨rfl, ⟨nd, rfl⟩⟩; refine ⟨_, rfl, ?_⟩))
  go_ret
  exact ⟨by first | rfl | (simp; done) | (simp [*]; done), by repeat (first | exact Drawn0.refl _ | apply Drawn0.step)⟩
 rw [if_neg c8] at H;have c8b0 : decide (a0 < a1) = false := decide_eq_false c8;clear c8
 by_cases c9 : a0 > a1
 ·rw [if_pos c9] at H;have c9b0 : decide (a1 < a0) = true := decide_eq_true c9;clear c9;obtain rfl := Option.some.inj H
  go_enter Try.func63, Try.ntmps63
  go_wp2_with (first | ((with_reducible refine gate_callee (f := 87) rfl ?_); refine gl (some 8) Try.func87 #[.int .u64 a0] ?_; (with_reducible refine (cmp_isNaN_uint64.calls a0 false _ A3.out).mono ?_); rintro e w' ⟨rfl, ⟨nd, rfl⟩⟩; refine ⟨_, rfl, ?_⟩) | ((with_reducible refine gate_callee (f := 87) rfl ?_); refine gl (some 10) Try.func87 #[.int .u64 a1] ?_; (with_reducible refine (cmp_isNaN_uint64.calls a1 false _ A4.out).mono ?_); rintro e w' ⟨rfl, ⟨nd, rfl⟩⟩; refine ⟨_, rfl, ?_⟩))
  go_ret
  exact ⟨by first | rfl | (simp; done) | (simp [*]; done), by repeat (first | exact Drawn0.refl _ | apply Drawn0.step)⟩
 rw [if_neg c9] at H;have c9b0 : decide (a1 < a0) = false := decide_eq_false c9;clear c9;obtain rfl := Option.some.inj H
 go_enter Try.func63, Try.ntmps63
 go_wp2_with (first | ((with_reducible refine gate_callee (f := 87) rfl ?_); refine gl (some 8) Try.func87 #[.int .u64 a0] ?_; (with_reducible refine (cmp_isNaN_uint64.calls a0 false _ A3.out).mono ?_); rintro e w' ⟨rfl, ⟨nd, rfl⟩⟩; refine ⟨_, rfl, ?_⟩) | ((with_reducible refine gate_callee (f := 87) rfl ?_); refine gl (some 10) Try.func87 #[.int .u64 a1] ?_; (with_reducible refine (cmp_isNaN_uint64.calls a1 false _ A4.out).mono ?_); rintro e w' ⟨rfl, ⟨nd, rfl⟩⟩; refine ⟨_, rfl, ?_⟩))
 go_ret
 exact ⟨by first | rfl | (simp; done) | (simp [*]; done), by repeat (first | exact Drawn0.refl _ | apply Drawn0.step)⟩

def bytealg_CompareString.f (a0 a1 : ByteArray) : Option Int := some (Lib.compareBytes a0.data.toList a1.data.toList)
theorem bytealg_CompareString.calls (a0 a1 : ByteArray) (r : Int) (w : World) (h : bytealg_CompareString.f a0 a1 = some r) :
  Calls Try.prog 88 #[.string a0, .string a1] w fun e w' => e = .returned (.int .i64 r) ∧ Drawn0 w w' := by
 obtain rfl := Option.some.inj h;clear h
 have hx : ∀ W : World, (callFunc 100 #[.string a0, .string a1]).run Try.prog W = .ok (.value (.int .i64 (Lib.compareBytes a0.data.toList a1.data.toList))) W := fun W => by
  rw [run_callFunc_extern Try.func100 (by kernel_rfl) (by kernel_rfl) (by kernel_rfl) (e := Extern.BytealgCompare.compare) (by kernel_rfl), Lib.run_compareString]
  rfl
 go_enter Try.func88, Try.ntmps88
 go_wp2_with (simp only [hx])
 go_ret
 exact ⟨rfl, ⟨0, rfl⟩⟩

def strings_Compare.f (a0 : ByteArray) (a1 : ByteArray) : Option (Int) := (bytealg_CompareString.f a0 a1).bind fun t161 => (some t161)
set_option maxHeartbeats 8000000 in
set_option maxRecDepth 100000 in
theorem strings_Compare.calls (a0 : ByteArray) (a1 : ByteArray) (r : Int) (w : World) (h : strings_Compare.f a0 a1 = some r) :
  Calls Try.prog 64 #[.string a0, .string a1] w fun e w' => e = .returned (.int .i64 r) ∧ Drawn0 w w' := by
 have H : ((bytealg_CompareString.f a0 a1).bind fun t161 => (some t161)) = some r := h;clear h;replace H := Option.bind_eq_some_iff.mp H;obtain ⟨t161, A30, H⟩ := H
 try dsimp only at H
 have A3 := am A30;clear A30;obtain rfl := Option.some.inj H
 go_enter Try.func64, Try.ntmps64
 go_wp2_with (first | ((with_reducible refine gate_callee (f := 88) rfl ?_); refine gl (some 7) Try.func88 #[.string a0, .string a1] ?_; (with_reducible refine (bytealg_CompareString.calls a0 a1 t161 _ A3.out).mono ?_); rintro e w' ⟨rfl, ⟨nd, rfl⟩⟩; refine ⟨_, rfl, ?_⟩))
 go_ret
 exact ⟨by first | rfl | (simp; done) | (simp [*]; done), by repeat (first | exact Drawn0.refl _ | apply Drawn0.step)⟩

end Go.Proofs.Ytagcobdpojeiiaa.H
