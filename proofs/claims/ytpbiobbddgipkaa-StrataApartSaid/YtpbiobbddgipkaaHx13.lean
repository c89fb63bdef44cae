import Derived.Test.YtpbiobbddgipkaaHx0
import Derived.Test.YtpbiobbddgipkaaHx5
import Derived.Test.YtpbiobbddgipkaaHx12
namespace Go.Proofs.Ytpbiobbddgipkaa.H
open Go.RowKit Go.Proofs.YtpbiobbddgipkaaW.PrintWords Go.Proofs.YtpbiobbddgipkaaW.PrintLast Go.Proofs.YtpbiobbddgipkaaW.PrintMore Go.Proofs.YtpbiobbddgipkaaW.Sq
attribute [local go_sem] max2_int min2_int max_two min_two max_three min_three max_four min_four
set_option linter.unusedVariables false
set_option linter.unusedSimpArgs false

def strata_find.f (k : Nat) (a0_0 : Int) (a0_1 : Int) (a0_2 : Int) (a0_3 : Int) (l0_4 : List (S42)) (a1 : ByteArray) : Option (ByteArray × Int × Int × Int × Int × (List (S87)) × Bool) := (sip_Sum.f k a0_0 a0_1 a1).bind fun t221 => ((strata_Label_42.f k l0_4 a1 t221 a0_0 a0_1 a0_3 ([] : List (S87))).bind fun bt223 => (if bt223.2 = true then (if 0 ≤ bt223.1 then (if bt223.1 < (l0_4.length : Int) then (some ((rd_T42 l0_4 bt223.1).f0, (rd_T42 l0_4 bt223.1).f1, (rd_T42 l0_4 bt223.1).f2.f0.f0, (rd_T42 l0_4 bt223.1).f2.f0.f1, (rd_T42 l0_4 bt223.1).f2.f1, (rd_T42 l0_4 bt223.1).f2.f2, true)) else (none)) else (none)) else (some (a1, t221, a0_0, a0_1, a0_3, ([] : List (S87)), false))))
theorem strata_find.mono : ∀ a0 a1 a2 a3 a4 a5 k, LeO (strata_find.f k a0 a1 a2 a3 a4 a5) (strata_find.f (k + 1) a0 a1 a2 a3 a4 a5) := by
 intro a0 a1 a2 a3 a4 a5 k
 unfold strata_find.f
 repeat' first
   | (with_reducible exact sip_Sum.mono _ _ _ _)
   | (with_reducible exact strata_Label_42.mono _ _ _ _ _ _ _ _)
   | (with_reducible exact LeO.refl _)
   | (with_reducible exact LeO.none _)
   | (with_reducible refine LeO.ite ?_ ?_)
   | (with_reducible refine LeO.bind ?_ (fun _ => ?_))
def strata_find.T1 : Bool × List (List Nat × List Nat) := (true, [([], []), ([], []), ([1], [1]), ([], []), ([2, 3], [2, 3]), ([], []), ([5], [5]), ([], []), ([7], [7]), ([6, 8], [6, 8]), ([0, 4, 9], [0, 4, 9]), ([], []), ([11, 10, 4, 0, 1, 2, 3, 4, 5, 6, 7, 8, 9, 10, 11], [10, 11])])
def strata_find.B1 : List Nat := [0, 0, 2, 0, 14, 0, 32, 0, 128, 480, 1023, 0, 4095]
theorem strata_find.tab1 : rtab .any (opsOf Try.f28 1) = strata_find.T1 := by kernel_rfl
theorem strata_find.bits1 : waitsOk strata_find.T1.2 strata_find.B1 = true := by kernel_rfl
set_option maxHeartbeats 8000000 in
set_option maxRecDepth 100000 in
theorem strata_find.calls (k : Nat) (a0_0 : Int) (a0_1 : Int) (a0_2 : Int) (a0_3 : Int) (P0_4_ : Nat → Prop) (A0_4 : Option Addr) (c0_4 : Nat) (l0_4 : List (S42)) (a1 : ByteArray) (r1 : ByteArray) (r2 : Int) (r3 : Int) (r4 : Int) (r5 : Int) (r6 : List (S87)) (r7 : Bool) (w : World) (hs0_4 : Kd.V k42 42 w w.heap.size (fun k_ => P0_4_ k_) (.slice A0_4 l0_4.length c0_4) l0_4) (h : strata_find.f k a0_0 a0_1 a0_2 a0_3 l0_4 a1 = some (r1, r2, r3, r4, r5, r6, r7)) :
  Calls Try.prog 28 #[.agg #[.int .u64 a0_0, .int .u64 a0_1, .int .i64 a0_2, .int .i64 a0_3, .slice A0_4 l0_4.length c0_4], .string a1] w fun e w' => ∃ v5_ : Value, e = .returned (.tuple #[.agg #[.string r1, .int .u64 r2, .int .u64 r3, .int .u64 r4, .int .i64 r5, v5_], .bool r7]) ∧ Kd.V k87 87 w' w.heap.size (fun k_ => (P0_4_ k_ ∨ w.heap.size ≤ k_)) v5_ r6 ∧ Below w.heap.size w w' := by
 have hu28 := Try.underlying28
 have hu42 := Try.underlying42
 have hu24 := Try.underlying24
 have hu40 := Try.underlying40
 have HO0_4 := am (show Kd.V k42 42 w w.heap.size (fun k_ => (P0_4_ k_ ∨ w.heap.size ≤ k_)) (.slice A0_4 l0_4.length c0_4) l0_4 from Kd.V_mono hs0_4 (fun k_ hk => .inl hk))
 have HB := am (Below.refl w.heap.size w)
 have H : ((sip_Sum.f k a0_0 a0_1 a1).bind fun t221 => ((strata_Label_42.f k l0_4 a1 t221 a0_0 a0_1 a0_3 ([] : List (S87))).bind fun bt223 => (if bt223.2 = true then (if 0 ≤ bt223.1 then (if bt223.1 < (l0_4.length : Int) then (some ((rd_T42 l0_4 bt223.1).f0, (rd_T42 l0_4 bt223.1).f1, (rd_T42 l0_4 bt223.1).f2.f0.f0, (rd_T42 l0_4 bt223.1).f2.f0.f1, (rd_T42 l0_4 bt223.1).f2.f1, (rd_T42 l0_4 bt223.1).f2.f2, true)) else (none)) else (none)) else (some (a1, t221, a0_0, a0_1, a0_3, ([] : List (S87)), false))))) = some (r1, r2, r3, r4, r5, r6, r7) := h
 clear h
 replace H := Option.bind_eq_some_iff.mp H
 obtain ⟨t221, A30, H⟩ := H
 try dsimp only at H
 have A3 := am A30
 clear A30
 replace H := Option.bind_eq_some_iff.mp H
 obtain ⟨⟨t223, t224⟩, A40, H⟩ := H
 try dsimp only at H
 have A4 := am A40
 clear A40
 by_cases c5 : t224 = true
 rotate_left
 ·replace c5 := Bool.eq_false_iff.mpr c5
  subst c5
  have H1 : (some (a1, t221, a0_0, a0_1, a0_3, ([] : List (S87)), false)) = some (r1, r2, r3, r4, r5, r6, r7) := by rw [if_neg (show ¬ (false = true) by decide)] at H; exact H
  clear H
  have H := H1
  clear H1
  simp only [Option.some.injEq, Prod.mk.injEq] at H
  obtain ⟨rfl, rfl, rfl, rfl, rfl, rfl, rfl⟩ := H
  go_enter Try.func28, Try.ntmps28
  try go_wp2_with (first | ((with_reducible refine gate_dst (N := 2) rfl ?_); refine be 2 #[.int .u64 a0_0, .int .u64 a0_1, .int .i64 a0_2, .int .i64 a0_3, .slice A0_4 l0_4.length c0_4] 28 ?_; intro gb219 hg w28 hbox hb; replace HO0_4 := am (Kd.V_below (Kd.V_elderB (pv HO0_4.out) gb219 (Nat.le_of_eq hg.symm)) hb); have BK219 := am (hbox); have GW219 := am ((pg hg HB : w.heap.size ≤ gb219)); have GE219 := am ((pg hg HB : w.heap.size ≤ gb219)); replace HB := am (below_step (pb HB) hb); clear hb hbox hg) | ((with_reducible refine gate_dst (N := 4) rfl ?_); refine be 4 #[.string (⟨#[]⟩ : ByteArray), .int .u64 0, .int .u64 0, .int .u64 0, .int .i64 0, .slice none 0 0] 42 ?_; intro gb220 hg w29 hbox hb; replace HO0_4 := am (Kd.V_below (Kd.V_elderB (pv HO0_4.out) gb220 (Nat.le_of_eq hg.symm)) hb); have BK220 := am (hbox); have GW220 := am ((pg hg HB : w.heap.size ≤ gb220)); have GE220 := am ((pg hg HB : w.heap.size ≤ gb220)); replace HB := am (below_step (pb HB) hb); obtain ⟨NB219_220, NB220_219, -, -⟩ := pm hg BK219; replace BK219 := am (blk_below (pk BK219.out) hb); clear hb hbox hg))
  replace HO0_4 := am (Kd.V_drew HO0_4.out)
  replace BK219 := am (blk_drew BK219.out)
  replace BK220 := am (blk_drew BK220.out)
  replace HB := am (below_drew1 HB.out)
  refine start_ (n := 13) (S := fun w' => w'.cell? ⟨gb219, 0, none⟩ = some (.int .u64 a0_0) ∧ w'.cell? ⟨gb219, 1, none⟩ = some (.int .u64 a0_1) ∧ w'.cell? ⟨gb219, 2, none⟩ = some (.int .i64 a0_2) ∧ w'.cell? ⟨gb219, 3, none⟩ = some (.int .i64 a0_3) ∧ w'.cell? ⟨gb219, 4, none⟩ = some (.slice A0_4 l0_4.length c0_4)) (ds := []) #[false, false, false, false, false, false, false, false, false, false, false, false, false] (by kernel_rfl) rfl rfl ⟨ce BK219 0, ce BK219 1, ce BK219 2, ce BK219 3, ce BK219 4⟩ (fun hHeld => ?_); refine with_tabW strata_find.tab1 strata_find.bits1 (fun HT_ HW_ => ?_)
  generalize w29.drew = w30 at HO0_4 BK219 BK220 HB hHeld ⊢
  refine pu 0 ?_
  refine pu 1 ?_
  refine pu 3 ?_
  refine pu 5 ?_
  refine pu 7 ?_
  refine ta 2 hHeld ?_
  refine ta 6 hHeld ?_
  refine ta 8 hHeld ?_
  refine pu 9 ?_
  refine join_ (σ := Nat) 1 #[true, true, true, true, true, true, true, true, true, true, true, true, false] (fun s_ => [(13, .int .u64 t221), (6, .pointer (some ⟨s_, 0, none⟩)), (19, .agg #[.string a1, .int .u64 t221, .int .u64 a0_0, .int .u64 a0_1, .int .i64 a0_3, .slice none 0 0])]) (fun s_ w' => (w'.cell? ⟨gb219, 0, none⟩ = some (.int .u64 a0_0) ∧ w'.cell? ⟨gb219, 1, none⟩ = some (.int .u64 a0_1) ∧ w'.cell? ⟨gb219, 2, none⟩ = some (.int .i64 a0_2) ∧ w'.cell? ⟨gb219, 3, none⟩ = some (.int .i64 a0_3) ∧ w'.cell? ⟨gb219, 4, none⟩ = some (.slice A0_4 l0_4.length c0_4)) ∧ (Kd.V k42 42 w' w.heap.size (fun k_ => (P0_4_ k_ ∨ w.heap.size ≤ k_) ∧ k_ ≠ gb219 ∧ k_ ≠ gb220 ∧ k_ ≠ s_) (.slice A0_4 l0_4.length c0_4) l0_4) ∧ (w'.heap[gb219]? = some (.cells #[.int .u64 a0_0, .int .u64 a0_1, .int .i64 a0_2, .int .i64 a0_3, .slice A0_4 l0_4.length c0_4] 28 (0, 0))) ∧ (w'.heap[gb220]? = some (.cells #[.string (⟨#[]⟩ : ByteArray), .int .u64 0, .int .u64 0, .int .u64 0, .int .i64 0, .slice none 0 0] 42 (0, 0))) ∧ (w'.heap[s_]? = some (.cells #[.string (⟨#[]⟩ : ByteArray), .int .u64 0, .int .u64 0, .int .u64 0, .int .i64 0, .slice none 0 0] 42 (0, 0))) ∧ (w.heap.size ≤ s_) ∧ (w.heap.size ≤ s_) ∧ (gb219 ≠ s_) ∧ (s_ ≠ gb219) ∧ (gb220 ≠ s_) ∧ (s_ ≠ gb220) ∧ (Below w.heap.size w w')) ?_ ?_
  ·rintro gb222 w33 ⟨hS_, h0_, h1_, h2_, h3_, h4_, h5_, h6_, h7_, h8_, h9_, h10_⟩
   replace HO0_4 : Aside0 (Kd.V k42 42 w33 w.heap.size (fun k_ => (P0_4_ k_ ∨ w.heap.size ≤ k_) ∧ k_ ≠ gb219 ∧ k_ ≠ gb220 ∧ k_ ≠ gb222) (.slice A0_4 l0_4.length c0_4) l0_4) := ⟨h0_⟩
   replace BK219 : Aside0 (w33.heap[gb219]? = some (.cells #[.int .u64 a0_0, .int .u64 a0_1, .int .i64 a0_2, .int .i64 a0_3, .slice A0_4 l0_4.length c0_4] 28 (0, 0))) := ⟨h1_⟩
   replace BK220 : Aside0 (w33.heap[gb220]? = some (.cells #[.string (⟨#[]⟩ : ByteArray), .int .u64 0, .int .u64 0, .int .u64 0, .int .i64 0, .slice none 0 0] 42 (0, 0))) := ⟨h2_⟩
   have BK222 : Aside0 (w33.heap[gb222]? = some (.cells #[.string (⟨#[]⟩ : ByteArray), .int .u64 0, .int .u64 0, .int .u64 0, .int .i64 0, .slice none 0 0] 42 (0, 0))) := ⟨h3_⟩
   have GW222 : Aside0 (w.heap.size ≤ gb222) := ⟨h4_⟩
   have GE222 : Aside0 (w.heap.size ≤ gb222) := ⟨h5_⟩
   have NB219_222 : Aside0 (gb219 ≠ gb222) := ⟨h6_⟩
   have NB222_219 : Aside0 (gb222 ≠ gb219) := ⟨h7_⟩
   have NB220_222 : Aside0 (gb220 ≠ gb222) := ⟨h8_⟩
   have NB222_220 : Aside0 (gb222 ≠ gb220) := ⟨h9_⟩
   replace HB : Aside0 (Below w.heap.size w w33) := ⟨h10_⟩
   clear h0_ h1_ h2_ h3_ h4_ h5_ h6_ h7_ h8_ h9_ h10_
   have hHeld : w33.cell? ⟨gb219, 0, none⟩ = some (.int .u64 a0_0) ∧ w33.cell? ⟨gb219, 1, none⟩ = some (.int .u64 a0_1) ∧ w33.cell? ⟨gb219, 2, none⟩ = some (.int .i64 a0_2) ∧ w33.cell? ⟨gb219, 3, none⟩ = some (.int .i64 a0_3) ∧ w33.cell? ⟨gb219, 4, none⟩ = some (.slice A0_4 l0_4.length c0_4) := hS_
   refine norm_ (a' := ?_) ?_ ?_
   rotate_left
   ·simp only [putAll, Act.put, List.setIfInBounds_toArray, List.set_cons_zero, List.set_cons_succ]
    rfl
   refine one_ (i := 12) (N := none) #[true, true, true, true, true, true, true, true, true, true, true, true, true] rfl rfl (one_of HT_.out (by kernel_rfl)) (by decide) (fun K hK => ?_)
   have hs34 : w33.cell? ⟨gb222, 0, none⟩ = some (.string (⟨#[]⟩ : ByteArray)) := ce BK222 0
   have hfs34 := blk_frozen BK222.out 0
   have hns34_0 := NB219_222.out
   have hns34_1 := NB220_222.out
   have hms34_0 := NB222_219.out
   have hms34_1 := NB222_220.out
   have hs35 : w33.cell? ⟨gb222, 1, none⟩ = some (.int .u64 0) := ce BK222 1
   have hfs35 := blk_frozen BK222.out 1
   have hns35_0 := NB219_222.out
   have hns35_1 := NB220_222.out
   have hms35_0 := NB222_219.out
   have hms35_1 := NB222_220.out
   have hs36 : w33.cell? ⟨gb222, 2, none⟩ = some (.int .u64 0) := ce BK222 2
   have hfs36 := blk_frozen BK222.out 2
   have hns36_0 := NB219_222.out
   have hns36_1 := NB220_222.out
   have hms36_0 := NB222_219.out
   have hms36_1 := NB222_220.out
   have hs37 : w33.cell? ⟨gb222, 3, none⟩ = some (.int .u64 0) := ce BK222 3
   have hfs37 := blk_frozen BK222.out 3
   have hns37_0 := NB219_222.out
   have hns37_1 := NB220_222.out
   have hms37_0 := NB222_219.out
   have hms37_1 := NB222_220.out
   have hs38 : w33.cell? ⟨gb222, 4, none⟩ = some (.int .i64 0) := ce BK222 4
   have hfs38 := blk_frozen BK222.out 4
   have hns38_0 := NB219_222.out
   have hns38_1 := NB220_222.out
   have hms38_0 := NB222_219.out
   have hms38_1 := NB222_220.out
   have hs39 : w33.cell? ⟨gb222, 5, none⟩ = some (.slice none 0 0) := ce BK222 5
   have hfs39 := blk_frozen BK222.out 5
   have hns39_0 := NB219_222.out
   have hns39_1 := NB220_222.out
   have hms39_0 := NB222_219.out
   have hms39_1 := NB222_220.out
   refine skip_ (w1 := ?_) (by rfl) rfl ?_ ?_
   rotate_left
   ·go_simp
    rfl
   refine hK.out _ _ ⟨((cell_far (p := ⟨gb222, _, none⟩) NB219_222.out _).trans (((cell_far (p := ⟨gb222, _, none⟩) NB219_222.out _).trans (((cell_far (p := ⟨gb222, _, none⟩) NB219_222.out _).trans (((cell_far (p := ⟨gb222, _, none⟩) NB219_222.out _).trans (((cell_far (p := ⟨gb222, _, none⟩) NB219_222.out _).trans (((cell_far (p := ⟨gb222, _, none⟩) NB219_222.out _).trans (hHeld.1)))))))))))), ((cell_far (p := ⟨gb222, _, none⟩) NB219_222.out _).trans (((cell_far (p := ⟨gb222, _, none⟩) NB219_222.out _).trans (((cell_far (p := ⟨gb222, _, none⟩) NB219_222.out _).trans (((cell_far (p := ⟨gb222, _, none⟩) NB219_222.out _).trans (((cell_far (p := ⟨gb222, _, none⟩) NB219_222.out _).trans (((cell_far (p := ⟨gb222, _, none⟩) NB219_222.out _).trans (hHeld.2.1)))))))))))), ((cell_far (p := ⟨gb222, _, none⟩) NB219_222.out _).trans (((cell_far (p := ⟨gb222, _, none⟩) NB219_222.out _).trans (((cell_far (p := ⟨gb222, _, none⟩) NB219_222.out _).trans (((cell_far (p := ⟨gb222, _, none⟩) NB219_222.out _).trans (((cell_far (p := ⟨gb222, _, none⟩) NB219_222.out _).trans (((cell_far (p := ⟨gb222, _, none⟩) NB219_222.out _).trans (hHeld.2.2.1)))))))))))), ((cell_far (p := ⟨gb222, _, none⟩) NB219_222.out _).trans (((cell_far (p := ⟨gb222, _, none⟩) NB219_222.out _).trans (((cell_far (p := ⟨gb222, _, none⟩) NB219_222.out _).trans (((cell_far (p := ⟨gb222, _, none⟩) NB219_222.out _).trans (((cell_far (p := ⟨gb222, _, none⟩) NB219_222.out _).trans (((cell_far (p := ⟨gb222, _, none⟩) NB219_222.out _).trans (hHeld.2.2.2.1)))))))))))), ((cell_far (p := ⟨gb222, _, none⟩) NB219_222.out _).trans (((cell_far (p := ⟨gb222, _, none⟩) NB219_222.out _).trans (((cell_far (p := ⟨gb222, _, none⟩) NB219_222.out _).trans (((cell_far (p := ⟨gb222, _, none⟩) NB219_222.out _).trans (((cell_far (p := ⟨gb222, _, none⟩) NB219_222.out _).trans (((cell_far (p := ⟨gb222, _, none⟩) NB219_222.out _).trans (hHeld.2.2.2.2))))))))))))⟩ (fun hHeld => ?_)
   clear hK K
   refine done_ (done_of HT_.out (by kernel_rfl)) ?_
   have hnb40 := NB219_220.out
   have hnc40 := NB220_219.out
   have hnb41 := NB219_222.out
   have hnc41 := NB222_219.out
   obtain ⟨hcz42_0, hcz42_1, hcz42_2, hcz42_3, hcz42_4, hfz42_0, hfz42_1, hfz42_2, hfz42_3, hfz42_4⟩ := g5 BK219
   have hnb43 := NB222_220.out
   have hnc43 := NB220_222.out
   obtain ⟨hcz44_0, hcz44_1, hcz44_2, hcz44_3, hcz44_4, hcz44_5, hfz44_0, hfz44_1, hfz44_2, hfz44_3, hfz44_4, hfz44_5⟩ := g6 BK222
   try go_wp2_with (first | ((with_reducible refine gate_callee (f := 42) rfl ?_); refine gl (some 24) Try.func42 #[.slice A0_4 l0_4.length c0_4, .agg #[.string a1, .int .u64 t221, .int .u64 a0_0, .int .u64 a0_1, .int .i64 a0_3, .slice none 0 0], .func (.func 39) #[] #[]] ?_; (refine (strata_Label_42.calls k _ _ l0_4 a1 t221 a0_0 a0_1 a0_3 _ _ ([] : List (S87)) t223 false _ ?side1 ?side2 ?side3 ?side4 A4.out).mono ?_); (case side1 => refine (Kd.V_reads' (e := 42) (base := w.heap.size) (ok := fun k_ => ((P0_4_ k_ ∨ w.heap.size ≤ k_) ∧ (k_ ≠ gb219 ∧ (k_ ≠ gb220 ∧ k_ ≠ gb222)))) (n := l0_4.length) (c := c0_4) ?_).2.2; exact (pv ((Kd.V_mono (Kd.V_far (p := ⟨gb222, 5, none⟩) (Kd.V_far (p := ⟨gb222, 4, none⟩) (Kd.V_far (p := ⟨gb222, 3, none⟩) (Kd.V_far (p := ⟨gb222, 2, none⟩) (Kd.V_far (p := ⟨gb222, 1, none⟩) (Kd.V_far (p := ⟨gb222, 0, none⟩) (Kd.V_mono HO0_4.out (fun k_ hk => (⟨hk, hk.2.2.2⟩ : _ ∧ k_ ≠ gb222))) (fun _ hk => hk.2) (.string a1)) (fun _ hk => hk.2) (.int .u64 t221)) (fun _ hk => hk.2) (.int .u64 a0_0)) (fun _ hk => hk.2) (.int .u64 a0_1)) (fun _ hk => hk.2) (.int .i64 a0_3)) (fun _ hk => hk.2) (.slice none 0 0)) (fun _ h_ => h_.1))))); (case side2 => exact (Kd.V_reads' HO0_4.out).2.1); (case side3 => exact Kd.C_nil _ _); (case side4 => exact Nat.le_refl _); rintro e w45 ⟨rfl, hb⟩; refine ⟨_, rfl, ?_⟩; replace HO0_4 := am (Kd.V_below (pv ((Kd.V_mono (Kd.V_far (p := ⟨gb222, 5, none⟩) (Kd.V_far (p := ⟨gb222, 4, none⟩) (Kd.V_far (p := ⟨gb222, 3, none⟩) (Kd.V_far (p := ⟨gb222, 2, none⟩) (Kd.V_far (p := ⟨gb222, 1, none⟩) (Kd.V_far (p := ⟨gb222, 0, none⟩) (Kd.V_mono HO0_4.out (fun k_ hk => (⟨hk, hk.2.2.2⟩ : _ ∧ k_ ≠ gb222))) (fun _ hk => hk.2) (.string a1)) (fun _ hk => hk.2) (.int .u64 t221)) (fun _ hk => hk.2) (.int .u64 a0_0)) (fun _ hk => hk.2) (.int .u64 a0_1)) (fun _ hk => hk.2) (.int .i64 a0_3)) (fun _ hk => hk.2) (.slice none 0 0)) (fun _ h_ => h_.1)))) hb); replace BK219 := am (blk_below (g := gb219) (o := .cells #[.int .u64 a0_0, .int .u64 a0_1, .int .i64 a0_2, .int .i64 a0_3, .slice A0_4 l0_4.length c0_4] 28 (0, 0)) (by refine pk ?_; refine blk_far ?_ NB219_222.out _; refine pk ?_; refine blk_far ?_ NB219_222.out _; refine pk ?_; refine blk_far ?_ NB219_222.out _; refine pk ?_; refine blk_far ?_ NB219_222.out _; refine pk ?_; refine blk_far ?_ NB219_222.out _; refine pk ?_; refine blk_far ?_ NB219_222.out _; refine pk ?_; exact BK219.out) hb); replace BK220 := am (blk_below (g := gb220) (o := .cells #[.string (⟨#[]⟩ : ByteArray), .int .u64 0, .int .u64 0, .int .u64 0, .int .i64 0, .slice none 0 0] 42 (0, 0)) (by refine pk ?_; refine blk_far ?_ NB220_222.out _; refine pk ?_; refine blk_far ?_ NB220_222.out _; refine pk ?_; refine blk_far ?_ NB220_222.out _; refine pk ?_; refine blk_far ?_ NB220_222.out _; refine pk ?_; refine blk_far ?_ NB220_222.out _; refine pk ?_; refine blk_far ?_ NB220_222.out _; refine pk ?_; exact BK220.out) hb); replace BK222 := am (blk_below (g := gb222) (o := .cells #[.string a1, .int .u64 t221, .int .u64 a0_0, .int .u64 a0_1, .int .i64 a0_3, .slice none 0 0] 42 (0, 0)) (by refine pk ?_; refine blk_put (cs := #[.string a1, .int .u64 t221, .int .u64 a0_0, .int .u64 a0_1, .int .i64 a0_3, .slice none 0 0]) ?_ 5 _ rfl; refine pk ?_; refine blk_put (cs := #[.string a1, .int .u64 t221, .int .u64 a0_0, .int .u64 a0_1, .int .i64 0, .slice none 0 0]) ?_ 4 _ rfl; refine pk ?_; refine blk_put (cs := #[.string a1, .int .u64 t221, .int .u64 a0_0, .int .u64 0, .int .i64 0, .slice none 0 0]) ?_ 3 _ rfl; refine pk ?_; refine blk_put (cs := #[.string a1, .int .u64 t221, .int .u64 0, .int .u64 0, .int .i64 0, .slice none 0 0]) ?_ 2 _ rfl; refine pk ?_; refine blk_put (cs := #[.string a1, .int .u64 0, .int .u64 0, .int .u64 0, .int .i64 0, .slice none 0 0]) ?_ 1 _ rfl; refine pk ?_; refine blk_put (cs := #[.string (⟨#[]⟩ : ByteArray), .int .u64 0, .int .u64 0, .int .u64 0, .int .i64 0, .slice none 0 0]) ?_ 0 _ rfl; refine pk ?_; exact BK222.out) hb); replace HB := am (below_step (pb HB) hb); (try clear hb); (try clear hb2); (try clear hk); (try clear hi); obtain ⟨hcz46_0, hcz46_1, hcz46_2, hcz46_3, hcz46_4, hcz46_5, hfz46_0, hfz46_1, hfz46_2, hfz46_3, hfz46_4, hfz46_5⟩ := g6 BK222; obtain ⟨hcz47_0, hcz47_1, hcz47_2, hcz47_3, hcz47_4, hcz47_5, hfz47_0, hfz47_1, hfz47_2, hfz47_3, hfz47_4, hfz47_5⟩ := g6 BK220))
   refine bodyPost_ret (results_ct rfl _ _ gb220 42 #[.string a1, .int .u64 t221, .int .u64 a0_0, .int .u64 a0_1, .int .i64 a0_3, .slice none 0 0] (0, 0) _ rfl (by refine pk ?_; refine blk_put (cs := #[.string a1, .int .u64 t221, .int .u64 a0_0, .int .u64 a0_1, .int .i64 a0_3, .slice none 0 0]) ?_ 5 _ rfl; refine pk ?_; refine blk_put (cs := #[.string a1, .int .u64 t221, .int .u64 a0_0, .int .u64 a0_1, .int .i64 0, .slice none 0 0]) ?_ 4 _ rfl; refine pk ?_; refine blk_put (cs := #[.string a1, .int .u64 t221, .int .u64 a0_0, .int .u64 0, .int .i64 0, .slice none 0 0]) ?_ 3 _ rfl; refine pk ?_; refine blk_put (cs := #[.string a1, .int .u64 t221, .int .u64 0, .int .u64 0, .int .i64 0, .slice none 0 0]) ?_ 2 _ rfl; refine pk ?_; refine blk_put (cs := #[.string a1, .int .u64 0, .int .u64 0, .int .u64 0, .int .i64 0, .slice none 0 0]) ?_ 1 _ rfl; refine pk ?_; refine blk_put (cs := #[.string (⟨#[]⟩ : ByteArray), .int .u64 0, .int .u64 0, .int .u64 0, .int .i64 0, .slice none 0 0]) ?_ 0 _ rfl; refine pk ?_; exact BK220.out) Try.underlying42 rfl (by kernel_rfl)) rfl ?_
   exact ⟨_, by first | rfl | (simp [errW_none, errW_some] <;> rfl) | (simp [*, errW_none, errW_some] <;> rfl), Kd.V_nil _ _ _ _ _, pb HB⟩
  intro hCont
  refine two_ (i := 4) (j := 11) (Ni := some 13) (Nj := some 6) #[true, true, true, true, true, true, true, true, true, true, false, false, false] #[true, true, true, true, false, true, true, true, true, true, false, true, false] rfl rfl rfl rfl (two_of HT_.out (by kernel_rfl)) (by decide) (by decide) (fun K hK => ?_) (fun K hK => ?_)
  ·skip
   refine gs Try.func33 #[.agg #[.int .u64 a0_0, .int .u64 a0_1], .string a1] ?_
   with_reducible refine (sip_Sum.calls k a0_0 a0_1 a1 t221 _ A3.out).mono ?_
   rintro e w31 ⟨rfl, hb⟩
   refine ⟨_, rfl, ?_⟩
   replace HO0_4 := am (Kd.V_below (pv HO0_4.out) hb)
   replace BK219 := am (blk_below (pk BK219.out) hb)
   replace BK220 := am (blk_below (pk BK220.out) hb)
   replace HB := am (below_step (pb HB) hb)
   (try clear hb)
   (try clear hb2)
   (try clear hk)
   (try clear hi)
   refine hK.out _ _ ⟨ce BK219 0, ce BK219 1, ce BK219 2, ce BK219 3, ce BK219 4⟩ (fun hHeld => ?_)
   clear hK K
   refine nm ?_
   refine pu 10 ?_
   refine on1 11 (fun K hK => ?_)
   refine bx 6 #[.string (⟨#[]⟩ : ByteArray), .int .u64 0, .int .u64 0, .int .u64 0, .int .i64 0, .slice none 0 0] 42 ?_
   intro gb222 hg w32 hbox hb
   have n0_ := am (Kd.V_below (Kd.V_elderB (pv HO0_4.out) gb222 (Nat.le_of_eq hg.symm)) hb)
   have n1_ := am (blk_below (pk BK219.out) hb)
   have n2_ := am (blk_below (pk BK220.out) hb)
   have n3_ := am (below_step (pb HB) hb)
   have n4_ := am (hbox)
   have n5_ := am ((pg hg HB : w.heap.size ≤ gb222))
   have n6_ := am ((pg hg HB : w.heap.size ≤ gb222))
   have n7_ := am ((pl hg (pk BK219.out) : gb219 ≠ gb222))
   have n8_ := am ((pl' hg (pk BK219.out) : gb222 ≠ gb219))
   have n9_ := am ((pl hg (pk BK220.out) : gb220 ≠ gb222))
   have n10_ := am ((pl' hg (pk BK220.out) : gb222 ≠ gb220))
   clear HO0_4 BK219 BK220 HB
   have HO0_4 := n0_
   have BK219 := n1_
   have BK220 := n2_
   have HB := n3_
   have BK222 := n4_
   have GW222 := n5_
   have GE222 := n6_
   have NB219_222 := n7_
   have NB222_219 := n8_
   have NB220_222 := n9_
   have NB222_220 := n10_
   clear n0_ n1_ n2_ n3_ n4_ n5_ n6_ n7_ n8_ n9_ n10_ hb hbox hg
   refine hK.out _ _ ⟨ce BK219 0, ce BK219 1, ce BK219 2, ce BK219 3, ce BK219 4⟩ (fun hHeld => ?_)
   clear hK K
   refine nm ?_
   exact nj (hCont (gb222) _ ⟨hHeld, (pv (Kd.V_mono HO0_4.out (fun _ hk => ⟨hk.1.1.1, ⟨hk.1.1.2, ⟨hk.1.2, hk.2⟩⟩⟩))), (pk BK219.out), (pk BK220.out), (pk BK222.out), GW222.out, GE222.out, NB219_222.out, NB222_219.out, NB220_222.out, NB222_220.out, (pb HB)⟩)
  skip
  refine bx 6 #[.string (⟨#[]⟩ : ByteArray), .int .u64 0, .int .u64 0, .int .u64 0, .int .i64 0, .slice none 0 0] 42 ?_
  intro gb222 hg w31 hbox hb
  have n0_ := am (Kd.V_below (Kd.V_elderB (pv HO0_4.out) gb222 (Nat.le_of_eq hg.symm)) hb)
  have n1_ := am (blk_below (pk BK219.out) hb)
  have n2_ := am (blk_below (pk BK220.out) hb)
  have n3_ := am (below_step (pb HB) hb)
  have n4_ := am (hbox)
  have n5_ := am ((pg hg HB : w.heap.size ≤ gb222))
  have n6_ := am ((pg hg HB : w.heap.size ≤ gb222))
  have n7_ := am ((pl hg (pk BK219.out) : gb219 ≠ gb222))
  have n8_ := am ((pl' hg (pk BK219.out) : gb222 ≠ gb219))
  have n9_ := am ((pl hg (pk BK220.out) : gb220 ≠ gb222))
  have n10_ := am ((pl' hg (pk BK220.out) : gb222 ≠ gb220))
  clear HO0_4 BK219 BK220 HB
  have HO0_4 := n0_
  have BK219 := n1_
  have BK220 := n2_
  have HB := n3_
  have BK222 := n4_
  have GW222 := n5_
  have GE222 := n6_
  have NB219_222 := n7_
  have NB222_219 := n8_
  have NB220_222 := n9_
  have NB222_220 := n10_
  clear n0_ n1_ n2_ n3_ n4_ n5_ n6_ n7_ n8_ n9_ n10_ hb hbox hg
  refine hK.out _ _ ⟨ce BK219 0, ce BK219 1, ce BK219 2, ce BK219 3, ce BK219 4⟩ (fun hHeld => ?_)
  clear hK K
  refine nm ?_
  refine on1 4 (fun K hK => ?_)
  refine gs Try.func33 #[.agg #[.int .u64 a0_0, .int .u64 a0_1], .string a1] ?_
  with_reducible refine (sip_Sum.calls k a0_0 a0_1 a1 t221 _ A3.out).mono ?_
  rintro e w32 ⟨rfl, hb⟩
  refine ⟨_, rfl, ?_⟩
  replace HO0_4 := am (Kd.V_below (pv HO0_4.out) hb)
  replace BK219 := am (blk_below (pk BK219.out) hb)
  replace BK220 := am (blk_below (pk BK220.out) hb)
  replace BK222 := am (blk_below (pk BK222.out) hb)
  replace HB := am (below_step (pb HB) hb)
  (try clear hb)
  (try clear hb2)
  (try clear hk)
  (try clear hi)
  refine hK.out _ _ ⟨ce BK219 0, ce BK219 1, ce BK219 2, ce BK219 3, ce BK219 4⟩ (fun hHeld => ?_)
  clear hK K
  refine nm ?_
  refine pu 10 ?_
  exact nj (hCont (gb222) _ ⟨hHeld, (pv (Kd.V_mono HO0_4.out (fun _ hk => ⟨hk.1.1.1, ⟨hk.1.1.2, ⟨hk.1.2, hk.2⟩⟩⟩))), (pk BK219.out), (pk BK220.out), (pk BK222.out), GW222.out, GE222.out, NB219_222.out, NB222_219.out, NB220_222.out, NB222_220.out, (pb HB)⟩)
 subst c5
 have H1 : (if 0 ≤ t223 then (if t223 < (l0_4.length : Int) then (some ((rd_T42 l0_4 t223).f0, (rd_T42 l0_4 t223).f1, (rd_T42 l0_4 t223).f2.f0.f0, (rd_T42 l0_4 t223).f2.f0.f1, (rd_T42 l0_4 t223).f2.f1, (rd_T42 l0_4 t223).f2.f2, true)) else (none)) else (none)) = some (r1, r2, r3, r4, r5, r6, r7) := by rw [if_pos rfl] at H; exact H
 clear H
 have H := H1
 clear H1
 by_cases c6 : 0 ≤ t223
 rotate_left
 ·rw [if_neg c6] at H
  exact absurd H (by simp)
 rw [if_pos c6] at H
 have c6b0 : decide (0 ≤ t223) = true := decide_eq_true c6
 clear c6
 by_cases c7 : t223 < (l0_4.length : Int)
 rotate_left
 ·rw [if_neg c7] at H
  exact absurd H (by simp)
 rw [if_pos c7] at H
 have c7b0 : decide (t223 < (l0_4.length : Int)) = true := decide_eq_true c7
 clear c7
 simp only [Option.some.injEq, Prod.mk.injEq] at H
 obtain ⟨rfl, rfl, rfl, rfl, rfl, rfl, rfl⟩ := H
 go_enter Try.func28, Try.ntmps28
 try go_wp2_with (first | ((with_reducible refine gate_dst (N := 2) rfl ?_); refine be 2 #[.int .u64 a0_0, .int .u64 a0_1, .int .i64 a0_2, .int .i64 a0_3, .slice A0_4 l0_4.length c0_4] 28 ?_; intro gb219 hg w8 hbox hb; replace HO0_4 := am (Kd.V_below (Kd.V_elderB (pv HO0_4.out) gb219 (Nat.le_of_eq hg.symm)) hb); have BK219 := am (hbox); have GW219 := am ((pg hg HB : w.heap.size ≤ gb219)); have GE219 := am ((pg hg HB : w.heap.size ≤ gb219)); replace HB := am (below_step (pb HB) hb); clear hb hbox hg) | ((with_reducible refine gate_dst (N := 4) rfl ?_); refine be 4 #[.string (⟨#[]⟩ : ByteArray), .int .u64 0, .int .u64 0, .int .u64 0, .int .i64 0, .slice none 0 0] 42 ?_; intro gb220 hg w9 hbox hb; replace HO0_4 := am (Kd.V_below (Kd.V_elderB (pv HO0_4.out) gb220 (Nat.le_of_eq hg.symm)) hb); have BK220 := am (hbox); have GW220 := am ((pg hg HB : w.heap.size ≤ gb220)); have GE220 := am ((pg hg HB : w.heap.size ≤ gb220)); replace HB := am (below_step (pb HB) hb); obtain ⟨NB219_220, NB220_219, -, -⟩ := pm hg BK219; replace BK219 := am (blk_below (pk BK219.out) hb); clear hb hbox hg))
 replace HO0_4 := am (Kd.V_drew HO0_4.out)
 replace BK219 := am (blk_drew BK219.out)
 replace BK220 := am (blk_drew BK220.out)
 replace HB := am (below_drew1 HB.out)
 refine start_ (n := 13) (S := fun w' => w'.cell? ⟨gb219, 0, none⟩ = some (.int .u64 a0_0) ∧ w'.cell? ⟨gb219, 1, none⟩ = some (.int .u64 a0_1) ∧ w'.cell? ⟨gb219, 2, none⟩ = some (.int .i64 a0_2) ∧ w'.cell? ⟨gb219, 3, none⟩ = some (.int .i64 a0_3) ∧ w'.cell? ⟨gb219, 4, none⟩ = some (.slice A0_4 l0_4.length c0_4)) (ds := []) #[false, false, false, false, false, false, false, false, false, false, false, false, false] (by kernel_rfl) rfl rfl ⟨ce BK219 0, ce BK219 1, ce BK219 2, ce BK219 3, ce BK219 4⟩ (fun hHeld => ?_); refine with_tabW strata_find.tab1 strata_find.bits1 (fun HT_ HW_ => ?_)
 generalize w9.drew = w10 at HO0_4 BK219 BK220 HB hHeld ⊢
 refine pu 0 ?_
 refine pu 1 ?_
 refine pu 3 ?_
 refine pu 5 ?_
 refine pu 7 ?_
 refine ta 2 hHeld ?_
 refine ta 6 hHeld ?_
 refine ta 8 hHeld ?_
 refine pu 9 ?_
 refine join_ (σ := Nat) 1 #[true, true, true, true, true, true, true, true, true, true, true, true, false] (fun s_ => [(13, .int .u64 t221), (6, .pointer (some ⟨s_, 0, none⟩)), (19, .agg #[.string a1, .int .u64 t221, .int .u64 a0_0, .int .u64 a0_1, .int .i64 a0_3, .slice none 0 0])]) (fun s_ w' => (w'.cell? ⟨gb219, 0, none⟩ = some (.int .u64 a0_0) ∧ w'.cell? ⟨gb219, 1, none⟩ = some (.int .u64 a0_1) ∧ w'.cell? ⟨gb219, 2, none⟩ = some (.int .i64 a0_2) ∧ w'.cell? ⟨gb219, 3, none⟩ = some (.int .i64 a0_3) ∧ w'.cell? ⟨gb219, 4, none⟩ = some (.slice A0_4 l0_4.length c0_4)) ∧ (Kd.V k42 42 w' w.heap.size (fun k_ => (P0_4_ k_ ∨ w.heap.size ≤ k_) ∧ k_ ≠ gb219 ∧ k_ ≠ gb220 ∧ k_ ≠ s_) (.slice A0_4 l0_4.length c0_4) l0_4) ∧ (w'.heap[gb219]? = some (.cells #[.int .u64 a0_0, .int .u64 a0_1, .int .i64 a0_2, .int .i64 a0_3, .slice A0_4 l0_4.length c0_4] 28 (0, 0))) ∧ (w'.heap[gb220]? = some (.cells #[.string (⟨#[]⟩ : ByteArray), .int .u64 0, .int .u64 0, .int .u64 0, .int .i64 0, .slice none 0 0] 42 (0, 0))) ∧ (w'.heap[s_]? = some (.cells #[.string (⟨#[]⟩ : ByteArray), .int .u64 0, .int .u64 0, .int .u64 0, .int .i64 0, .slice none 0 0] 42 (0, 0))) ∧ (w.heap.size ≤ s_) ∧ (w.heap.size ≤ s_) ∧ (gb219 ≠ s_) ∧ (s_ ≠ gb219) ∧ (gb220 ≠ s_) ∧ (s_ ≠ gb220) ∧ (Below w.heap.size w w')) ?_ ?_
 ·rintro gb222 w13 ⟨hS_, h0_, h1_, h2_, h3_, h4_, h5_, h6_, h7_, h8_, h9_, h10_⟩
  replace HO0_4 : Aside0 (Kd.V k42 42 w13 w.heap.size (fun k_ => (P0_4_ k_ ∨ w.heap.size ≤ k_) ∧ k_ ≠ gb219 ∧ k_ ≠ gb220 ∧ k_ ≠ gb222) (.slice A0_4 l0_4.length c0_4) l0_4) := ⟨h0_⟩
  replace BK219 : Aside0 (w13.heap[gb219]? = some (.cells #[.int .u64 a0_0, .int .u64 a0_1, .int .i64 a0_2, .int .i64 a0_3, .slice A0_4 l0_4.length c0_4] 28 (0, 0))) := ⟨h1_⟩
  replace BK220 : Aside0 (w13.heap[gb220]? = some (.cells #[.string (⟨#[]⟩ : ByteArray), .int .u64 0, .int .u64 0, .int .u64 0, .int .i64 0, .slice none 0 0] 42 (0, 0))) := ⟨h2_⟩
  have BK222 : Aside0 (w13.heap[gb222]? = some (.cells #[.string (⟨#[]⟩ : ByteArray), .int .u64 0, .int .u64 0, .int .u64 0, .int .i64 0, .slice none 0 0] 42 (0, 0))) := ⟨h3_⟩
  have GW222 : Aside0 (w.heap.size ≤ gb222) := ⟨h4_⟩
  have GE222 : Aside0 (w.heap.size ≤ gb222) := ⟨h5_⟩
  have NB219_222 : Aside0 (gb219 ≠ gb222) := ⟨h6_⟩
  have NB222_219 : Aside0 (gb222 ≠ gb219) := ⟨h7_⟩
  have NB220_222 : Aside0 (gb220 ≠ gb222) := ⟨h8_⟩
  have NB222_220 : Aside0 (gb222 ≠ gb220) := ⟨h9_⟩
  replace HB : Aside0 (Below w.heap.size w w13) := ⟨h10_⟩
  clear h0_ h1_ h2_ h3_ h4_ h5_ h6_ h7_ h8_ h9_ h10_
  have hHeld : w13.cell? ⟨gb219, 0, none⟩ = some (.int .u64 a0_0) ∧ w13.cell? ⟨gb219, 1, none⟩ = some (.int .u64 a0_1) ∧ w13.cell? ⟨gb219, 2, none⟩ = some (.int .i64 a0_2) ∧ w13.cell? ⟨gb219, 3, none⟩ = some (.int .i64 a0_3) ∧ w13.cell? ⟨gb219, 4, none⟩ = some (.slice A0_4 l0_4.length c0_4) := hS_
  refine norm_ (a' := ?_) ?_ ?_
  rotate_left
  ·simp only [putAll, Act.put, List.setIfInBounds_toArray, List.set_cons_zero, List.set_cons_succ]
   rfl
  refine one_ (i := 12) (N := none) #[true, true, true, true, true, true, true, true, true, true, true, true, true] rfl rfl (one_of HT_.out (by kernel_rfl)) (by decide) (fun K hK => ?_)
  have hs14 : w13.cell? ⟨gb222, 0, none⟩ = some (.string (⟨#[]⟩ : ByteArray)) := ce BK222 0
  have hfs14 := blk_frozen BK222.out 0
  have hns14_0 := NB219_222.out
  have hns14_1 := NB220_222.out
  have hms14_0 := NB222_219.out
  have hms14_1 := NB222_220.out
  have hs15 : w13.cell? ⟨gb222, 1, none⟩ = some (.int .u64 0) := ce BK222 1
  have hfs15 := blk_frozen BK222.out 1
  have hns15_0 := NB219_222.out
  have hns15_1 := NB220_222.out
  have hms15_0 := NB222_219.out
  have hms15_1 := NB222_220.out
  have hs16 : w13.cell? ⟨gb222, 2, none⟩ = some (.int .u64 0) := ce BK222 2
  have hfs16 := blk_frozen BK222.out 2
  have hns16_0 := NB219_222.out
  have hns16_1 := NB220_222.out
  have hms16_0 := NB222_219.out
  have hms16_1 := NB222_220.out
  have hs17 : w13.cell? ⟨gb222, 3, none⟩ = some (.int .u64 0) := ce BK222 3
  have hfs17 := blk_frozen BK222.out 3
  have hns17_0 := NB219_222.out
  have hns17_1 := NB220_222.out
  have hms17_0 := NB222_219.out
  have hms17_1 := NB222_220.out
  have hs18 : w13.cell? ⟨gb222, 4, none⟩ = some (.int .i64 0) := ce BK222 4
  have hfs18 := blk_frozen BK222.out 4
  have hns18_0 := NB219_222.out
  have hns18_1 := NB220_222.out
  have hms18_0 := NB222_219.out
  have hms18_1 := NB222_220.out
  have hs19 : w13.cell? ⟨gb222, 5, none⟩ = some (.slice none 0 0) := ce BK222 5
  have hfs19 := blk_frozen BK222.out 5
  have hns19_0 := NB219_222.out
  have hns19_1 := NB220_222.out
  have hms19_0 := NB222_219.out
  have hms19_1 := NB222_220.out
  refine skip_ (w1 := ?_) (by rfl) rfl ?_ ?_
  rotate_left
  ·go_simp
   rfl
  refine hK.out _ _ ⟨((cell_far (p := ⟨gb222, _, none⟩) NB219_222.out _).trans (((cell_far (p := ⟨gb222, _, none⟩) NB219_222.out _).trans (((cell_far (p := ⟨gb222, _, none⟩) NB219_222.out _).trans (((cell_far (p := ⟨gb222, _, none⟩) NB219_222.out _).trans (((cell_far (p := ⟨gb222, _, none⟩) NB219_222.out _).trans (((cell_far (p := ⟨gb222, _, none⟩) NB219_222.out _).trans (hHeld.1)))))))))))), ((cell_far (p := ⟨gb222, _, none⟩) NB219_222.out _).trans (((cell_far (p := ⟨gb222, _, none⟩) NB219_222.out _).trans (((cell_far (p := ⟨gb222, _, none⟩) NB219_222.out _).trans (((cell_far (p := ⟨gb222, _, none⟩) NB219_222.out _).trans (((cell_far (p := ⟨gb222, _, none⟩) NB219_222.out _).trans (((cell_far (p := ⟨gb222, _, none⟩) NB219_222.out _).trans (hHeld.2.1)))))))))))), ((cell_far (p := ⟨gb222, _, none⟩) NB219_222.out _).trans (((cell_far (p := ⟨gb222, _, none⟩) NB219_222.out _).trans (((cell_far (p := ⟨gb222, _, none⟩) NB219_222.out _).trans (((cell_far (p := ⟨gb222, _, none⟩) NB219_222.out _).trans (((cell_far (p := ⟨gb222, _, none⟩) NB219_222.out _).trans (((cell_far (p := ⟨gb222, _, none⟩) NB219_222.out _).trans (hHeld.2.2.1)))))))))))), ((cell_far (p := ⟨gb222, _, none⟩) NB219_222.out _).trans (((cell_far (p := ⟨gb222, _, none⟩) NB219_222.out _).trans (((cell_far (p := ⟨gb222, _, none⟩) NB219_222.out _).trans (((cell_far (p := ⟨gb222, _, none⟩) NB219_222.out _).trans (((cell_far (p := ⟨gb222, _, none⟩) NB219_222.out _).trans (((cell_far (p := ⟨gb222, _, none⟩) NB219_222.out _).trans (hHeld.2.2.2.1)))))))))))), ((cell_far (p := ⟨gb222, _, none⟩) NB219_222.out _).trans (((cell_far (p := ⟨gb222, _, none⟩) NB219_222.out _).trans (((cell_far (p := ⟨gb222, _, none⟩) NB219_222.out _).trans (((cell_far (p := ⟨gb222, _, none⟩) NB219_222.out _).trans (((cell_far (p := ⟨gb222, _, none⟩) NB219_222.out _).trans (((cell_far (p := ⟨gb222, _, none⟩) NB219_222.out _).trans (hHeld.2.2.2.2))))))))))))⟩ (fun hHeld => ?_)
  clear hK K
  refine done_ (done_of HT_.out (by kernel_rfl)) ?_
  have hnb20 := NB219_220.out
  have hnc20 := NB220_219.out
  have hnb21 := NB219_222.out
  have hnc21 := NB222_219.out
  obtain ⟨hcz22_0, hcz22_1, hcz22_2, hcz22_3, hcz22_4, hfz22_0, hfz22_1, hfz22_2, hfz22_3, hfz22_4⟩ := g5 BK219
  have hnb23 := NB222_220.out
  have hnc23 := NB220_222.out
  obtain ⟨hcz24_0, hcz24_1, hcz24_2, hcz24_3, hcz24_4, hcz24_5, hfz24_0, hfz24_1, hfz24_2, hfz24_3, hfz24_4, hfz24_5⟩ := g6 BK222
  try go_wp2_with (first | ((with_reducible refine gate_callee (f := 42) rfl ?_); refine gl (some 24) Try.func42 #[.slice A0_4 l0_4.length c0_4, .agg #[.string a1, .int .u64 t221, .int .u64 a0_0, .int .u64 a0_1, .int .i64 a0_3, .slice none 0 0], .func (.func 39) #[] #[]] ?_; (refine (strata_Label_42.calls k _ _ l0_4 a1 t221 a0_0 a0_1 a0_3 _ _ ([] : List (S87)) t223 true _ ?side1 ?side2 ?side3 ?side4 A4.out).mono ?_); (case side1 => refine (Kd.V_reads' (e := 42) (base := w.heap.size) (ok := fun k_ => ((P0_4_ k_ ∨ w.heap.size ≤ k_) ∧ (k_ ≠ gb219 ∧ (k_ ≠ gb220 ∧ k_ ≠ gb222)))) (n := l0_4.length) (c := c0_4) ?_).2.2; exact (pv ((Kd.V_mono (Kd.V_far (p := ⟨gb222, 5, none⟩) (Kd.V_far (p := ⟨gb222, 4, none⟩) (Kd.V_far (p := ⟨gb222, 3, none⟩) (Kd.V_far (p := ⟨gb222, 2, none⟩) (Kd.V_far (p := ⟨gb222, 1, none⟩) (Kd.V_far (p := ⟨gb222, 0, none⟩) (Kd.V_mono HO0_4.out (fun k_ hk => (⟨hk, hk.2.2.2⟩ : _ ∧ k_ ≠ gb222))) (fun _ hk => hk.2) (.string a1)) (fun _ hk => hk.2) (.int .u64 t221)) (fun _ hk => hk.2) (.int .u64 a0_0)) (fun _ hk => hk.2) (.int .u64 a0_1)) (fun _ hk => hk.2) (.int .i64 a0_3)) (fun _ hk => hk.2) (.slice none 0 0)) (fun _ h_ => h_.1))))); (case side2 => exact (Kd.V_reads' HO0_4.out).2.1); (case side3 => exact Kd.C_nil _ _); (case side4 => exact Nat.le_refl _); rintro e w25 ⟨rfl, hb⟩; refine ⟨_, rfl, ?_⟩; replace HO0_4 := am (Kd.V_below (pv ((Kd.V_mono (Kd.V_far (p := ⟨gb222, 5, none⟩) (Kd.V_far (p := ⟨gb222, 4, none⟩) (Kd.V_far (p := ⟨gb222, 3, none⟩) (Kd.V_far (p := ⟨gb222, 2, none⟩) (Kd.V_far (p := ⟨gb222, 1, none⟩) (Kd.V_far (p := ⟨gb222, 0, none⟩) (Kd.V_mono HO0_4.out (fun k_ hk => (⟨hk, hk.2.2.2⟩ : _ ∧ k_ ≠ gb222))) (fun _ hk => hk.2) (.string a1)) (fun _ hk => hk.2) (.int .u64 t221)) (fun _ hk => hk.2) (.int .u64 a0_0)) (fun _ hk => hk.2) (.int .u64 a0_1)) (fun _ hk => hk.2) (.int .i64 a0_3)) (fun _ hk => hk.2) (.slice none 0 0)) (fun _ h_ => h_.1)))) hb); replace BK219 := am (blk_below (g := gb219) (o := .cells #[.int .u64 a0_0, .int .u64 a0_1, .int .i64 a0_2, .int .i64 a0_3, .slice A0_4 l0_4.length c0_4] 28 (0, 0)) (by refine pk ?_; refine blk_far ?_ NB219_222.out _; refine pk ?_; refine blk_far ?_ NB219_222.out _; refine pk ?_; refine blk_far ?_ NB219_222.out _; refine pk ?_; refine blk_far ?_ NB219_222.out _; refine pk ?_; refine blk_far ?_ NB219_222.out _; refine pk ?_; refine blk_far ?_ NB219_222.out _; refine pk ?_; exact BK219.out) hb); replace BK220 := am (blk_below (g := gb220) (o := .cells #[.string (⟨#[]⟩ : ByteArray), .int .u64 0, .int .u64 0, .int .u64 0, .int .i64 0, .slice none 0 0] 42 (0, 0)) (by refine pk ?_; refine blk_far ?_ NB220_222.out _; refine pk ?_; refine blk_far ?_ NB220_222.out _; refine pk ?_; refine blk_far ?_ NB220_222.out _; refine pk ?_; refine blk_far ?_ NB220_222.out _; refine pk ?_; refine blk_far ?_ NB220_222.out _; refine pk ?_; refine blk_far ?_ NB220_222.out _; refine pk ?_; exact BK220.out) hb); replace BK222 := am (blk_below (g := gb222) (o := .cells #[.string a1, .int .u64 t221, .int .u64 a0_0, .int .u64 a0_1, .int .i64 a0_3, .slice none 0 0] 42 (0, 0)) (by refine pk ?_; refine blk_put (cs := #[.string a1, .int .u64 t221, .int .u64 a0_0, .int .u64 a0_1, .int .i64 a0_3, .slice none 0 0]) ?_ 5 _ rfl; refine pk ?_; refine blk_put (cs := #[.string a1, .int .u64 t221, .int .u64 a0_0, .int .u64 a0_1, .int .i64 0, .slice none 0 0]) ?_ 4 _ rfl; refine pk ?_; refine blk_put (cs := #[.string a1, .int .u64 t221, .int .u64 a0_0, .int .u64 0, .int .i64 0, .slice none 0 0]) ?_ 3 _ rfl; refine pk ?_; refine blk_put (cs := #[.string a1, .int .u64 t221, .int .u64 0, .int .u64 0, .int .i64 0, .slice none 0 0]) ?_ 2 _ rfl; refine pk ?_; refine blk_put (cs := #[.string a1, .int .u64 0, .int .u64 0, .int .u64 0, .int .i64 0, .slice none 0 0]) ?_ 1 _ rfl; refine pk ?_; refine blk_put (cs := #[.string (⟨#[]⟩ : ByteArray), .int .u64 0, .int .u64 0, .int .u64 0, .int .i64 0, .slice none 0 0]) ?_ 0 _ rfl; refine pk ?_; exact BK222.out) hb); replace HB := am (below_step (pb HB) hb); (try clear hb); (try clear hb2); (try clear hk); (try clear hi); obtain ⟨hcz26_0, hcz26_1, hcz26_2, hcz26_3, hcz26_4, hfz26_0, hfz26_1, hfz26_2, hfz26_3, hfz26_4⟩ := g5 BK219; have p225 : 0 ≤ (t223 : Int) := of_decide_eq_true (by first | (with_reducible assumption) | assumption); have q225 : t223 < (l0_4.length : Int) := of_decide_eq_true (by first | (with_reducible assumption) | assumption); obtain ⟨ad225, A225_5, c225_5, e225, hx225_0, hx225_1, hx225_2, hx225_3, hx225_4, hx225_5, hl225_5, hi225_5⟩ := at_T42 (Kd.V_reads' HO0_4.out).2.2 t223 p225 q225; cases e225; obtain ⟨ce225, hce225, hMe225, hcc225⟩ := Kd.V_get HO0_4.out z42 t223 p225 (by first | exact q225 | exact of_decide_eq_true (by first | (with_reducible assumption) | assumption) | (have e_ := (Kd.V_reads' HO0_4.out).1; omega)); obtain ⟨ua225_5, uc225_5, rfl, ul225_5, ge225_5⟩ := k42_openF hMe225; have hv225_5 := hcc225 5 _ rfl; rw [add_field _ _ 5 (by omega)] at hv225_5; replace hv225_5 := Option.some.inj (hv225_5.symm.trans hx225_5); injection hv225_5 with hva_ hvn_ hvc_; rw [hva_] at ge225_5; rw [hvc_] at ul225_5; have HL225_5 := am (show Kd.V k87 87 _ w.heap.size _ _ ((rd_T42 l0_4 t223).f2.f2) from Kd.V_mk ul225_5 ge225_5); clear hva_ hvn_ hvc_ ge225_5 ul225_5; clear hcc225 hce225; have HR225_5 := am hi225_5; have HC225_5 := am hl225_5; clear hi225_5 hl225_5; replace p225 := eq_true p225; replace q225 := eq_true q225; obtain ⟨hcz27_0, hcz27_1, hcz27_2, hcz27_3, hcz27_4, hcz27_5, hfz27_0, hfz27_1, hfz27_2, hfz27_3, hfz27_4, hfz27_5⟩ := g6 BK220))
  refine bodyPost_ret (results_ct rfl _ _ gb220 42 #[.string ((rd_T42 l0_4 t223).f0), .int .u64 ((rd_T42 l0_4 t223).f1), .int .u64 ((rd_T42 l0_4 t223).f2.f0.f0), .int .u64 ((rd_T42 l0_4 t223).f2.f0.f1), .int .i64 ((rd_T42 l0_4 t223).f2.f1), .slice A225_5 ((rd_T42 l0_4 t223).f2.f2).length c225_5] (0, 0) _ rfl (by refine pk ?_; refine blk_put (cs := #[.string ((rd_T42 l0_4 t223).f0), .int .u64 ((rd_T42 l0_4 t223).f1), .int .u64 ((rd_T42 l0_4 t223).f2.f0.f0), .int .u64 ((rd_T42 l0_4 t223).f2.f0.f1), .int .i64 ((rd_T42 l0_4 t223).f2.f1), .slice none 0 0]) ?_ 5 _ rfl; refine pk ?_; refine blk_put (cs := #[.string ((rd_T42 l0_4 t223).f0), .int .u64 ((rd_T42 l0_4 t223).f1), .int .u64 ((rd_T42 l0_4 t223).f2.f0.f0), .int .u64 ((rd_T42 l0_4 t223).f2.f0.f1), .int .i64 0, .slice none 0 0]) ?_ 4 _ rfl; refine pk ?_; refine blk_put (cs := #[.string ((rd_T42 l0_4 t223).f0), .int .u64 ((rd_T42 l0_4 t223).f1), .int .u64 ((rd_T42 l0_4 t223).f2.f0.f0), .int .u64 0, .int .i64 0, .slice none 0 0]) ?_ 3 _ rfl; refine pk ?_; refine blk_put (cs := #[.string ((rd_T42 l0_4 t223).f0), .int .u64 ((rd_T42 l0_4 t223).f1), .int .u64 0, .int .u64 0, .int .i64 0, .slice none 0 0]) ?_ 2 _ rfl; refine pk ?_; refine blk_put (cs := #[.string ((rd_T42 l0_4 t223).f0), .int .u64 0, .int .u64 0, .int .u64 0, .int .i64 0, .slice none 0 0]) ?_ 1 _ rfl; refine pk ?_; refine blk_put (cs := #[.string (⟨#[]⟩ : ByteArray), .int .u64 0, .int .u64 0, .int .u64 0, .int .i64 0, .slice none 0 0]) ?_ 0 _ rfl; refine pk ?_; exact BK220.out) Try.underlying42 rfl (by kernel_rfl)) rfl ?_
  exact ⟨_, by first | rfl | (simp [errW_none, errW_some] <;> rfl) | (simp [*, errW_none, errW_some] <;> rfl), by refine pv ?_; exact Kd.V_mono (Kd.V_far (p := ⟨gb220, 5, none⟩) (Kd.V_far (p := ⟨gb220, 4, none⟩) (Kd.V_far (p := ⟨gb220, 3, none⟩) (Kd.V_far (p := ⟨gb220, 2, none⟩) (Kd.V_far (p := ⟨gb220, 1, none⟩) (Kd.V_far (p := ⟨gb220, 0, none⟩) (Kd.V_mono HL225_5.out (fun k_ hk => (⟨hk, hk.2.2.1⟩ : _ ∧ k_ ≠ gb220))) (fun _ hk => hk.2) (.string ((rd_T42 l0_4 t223).f0))) (fun _ hk => hk.2) (.int .u64 ((rd_T42 l0_4 t223).f1))) (fun _ hk => hk.2) (.int .u64 ((rd_T42 l0_4 t223).f2.f0.f0))) (fun _ hk => hk.2) (.int .u64 ((rd_T42 l0_4 t223).f2.f0.f1))) (fun _ hk => hk.2) (.int .i64 ((rd_T42 l0_4 t223).f2.f1))) (fun _ hk => hk.2) (.slice A225_5 ((rd_T42 l0_4 t223).f2.f2).length c225_5)) (fun _ hk => hk.1.1), pb HB⟩
 intro hCont
 refine two_ (i := 4) (j := 11) (Ni := some 13) (Nj := some 6) #[true, true, true, true, true, true, true, true, true, true, false, false, false] #[true, true, true, true, false, true, true, true, true, true, false, true, false] rfl rfl rfl rfl (two_of HT_.out (by kernel_rfl)) (by decide) (by decide) (fun K hK => ?_) (fun K hK => ?_)
 ·skip
  refine gs Try.func33 #[.agg #[.int .u64 a0_0, .int .u64 a0_1], .string a1] ?_
  with_reducible refine (sip_Sum.calls k a0_0 a0_1 a1 t221 _ A3.out).mono ?_
  rintro e w11 ⟨rfl, hb⟩
  refine ⟨_, rfl, ?_⟩
  replace HO0_4 := am (Kd.V_below (pv HO0_4.out) hb)
  replace BK219 := am (blk_below (pk BK219.out) hb)
  replace BK220 := am (blk_below (pk BK220.out) hb)
  replace HB := am (below_step (pb HB) hb)
  (try clear hb)
  (try clear hb2)
  (try clear hk)
  (try clear hi)
  refine hK.out _ _ ⟨ce BK219 0, ce BK219 1, ce BK219 2, ce BK219 3, ce BK219 4⟩ (fun hHeld => ?_)
  clear hK K
  refine nm ?_
  refine pu 10 ?_
  refine on1 11 (fun K hK => ?_)
  refine bx 6 #[.string (⟨#[]⟩ : ByteArray), .int .u64 0, .int .u64 0, .int .u64 0, .int .i64 0, .slice none 0 0] 42 ?_
  intro gb222 hg w12 hbox hb
  have n0_ := am (Kd.V_below (Kd.V_elderB (pv HO0_4.out) gb222 (Nat.le_of_eq hg.symm)) hb)
  have n1_ := am (blk_below (pk BK219.out) hb)
  have n2_ := am (blk_below (pk BK220.out) hb)
  have n3_ := am (below_step (pb HB) hb)
  have n4_ := am (hbox)
  have n5_ := am ((pg hg HB : w.heap.size ≤ gb222))
  have n6_ := am ((pg hg HB : w.heap.size ≤ gb222))
  have n7_ := am ((pl hg (pk BK219.out) : gb219 ≠ gb222))
  have n8_ := am ((pl' hg (pk BK219.out) : gb222 ≠ gb219))
  have n9_ := am ((pl hg (pk BK220.out) : gb220 ≠ gb222))
  have n10_ := am ((pl' hg (pk BK220.out) : gb222 ≠ gb220))
  clear HO0_4 BK219 BK220 HB
  have HO0_4 := n0_
  have BK219 := n1_
  have BK220 := n2_
  have HB := n3_
  have BK222 := n4_
  have GW222 := n5_
  have GE222 := n6_
  have NB219_222 := n7_
  have NB222_219 := n8_
  have NB220_222 := n9_
  have NB222_220 := n10_
  clear n0_ n1_ n2_ n3_ n4_ n5_ n6_ n7_ n8_ n9_ n10_ hb hbox hg
  refine hK.out _ _ ⟨ce BK219 0, ce BK219 1, ce BK219 2, ce BK219 3, ce BK219 4⟩ (fun hHeld => ?_)
  clear hK K
  refine nm ?_
  exact nj (hCont (gb222) _ ⟨hHeld, (pv (Kd.V_mono HO0_4.out (fun _ hk => ⟨hk.1.1.1, ⟨hk.1.1.2, ⟨hk.1.2, hk.2⟩⟩⟩))), (pk BK219.out), (pk BK220.out), (pk BK222.out), GW222.out, GE222.out, NB219_222.out, NB222_219.out, NB220_222.out, NB222_220.out, (pb HB)⟩)
 skip
 refine bx 6 #[.string (⟨#[]⟩ : ByteArray), .int .u64 0, .int .u64 0, .int .u64 0, .int .i64 0, .slice none 0 0] 42 ?_
 intro gb222 hg w11 hbox hb
 have n0_ := am (Kd.V_below (Kd.V_elderB (pv HO0_4.out) gb222 (Nat.le_of_eq hg.symm)) hb)
 have n1_ := am (blk_below (pk BK219.out) hb)
 have n2_ := am (blk_below (pk BK220.out) hb)
 have n3_ := am (below_step (pb HB) hb)
 have n4_ := am (hbox)
 have n5_ := am ((pg hg HB : w.heap.size ≤ gb222))
 have n6_ := am ((pg hg HB : w.heap.size ≤ gb222))
 have n7_ := am ((pl hg (pk BK219.out) : gb219 ≠ gb222))
 have n8_ := am ((pl' hg (pk BK219.out) : gb222 ≠ gb219))
 have n9_ := am ((pl hg (pk BK220.out) : gb220 ≠ gb222))
 have n10_ := am ((pl' hg (pk BK220.out) : gb222 ≠ gb220))
 clear HO0_4 BK219 BK220 HB
 have HO0_4 := n0_
 have BK219 := n1_
 have BK220 := n2_
 have HB := n3_
 have BK222 := n4_
 have GW222 := n5_
 have GE222 := n6_
 have NB219_222 := n7_
 have NB222_219 := n8_
 have NB220_222 := n9_
 have NB222_220 := n10_
 clear n0_ n1_ n2_ n3_ n4_ n5_ n6_ n7_ n8_ n9_ n10_ hb hbox hg
 refine hK.out _ _ ⟨ce BK219 0, ce BK219 1, ce BK219 2, ce BK219 3, ce BK219 4⟩ (fun hHeld => ?_)
 clear hK K
 refine nm ?_
 refine on1 4 (fun K hK => ?_)
 refine gs Try.func33 #[.agg #[.int .u64 a0_0, .int .u64 a0_1], .string a1] ?_
 with_reducible refine (sip_Sum.calls k a0_0 a0_1 a1 t221 _ A3.out).mono ?_
 rintro e w12 ⟨rfl, hb⟩
 refine ⟨_, rfl, ?_⟩
 replace HO0_4 := am (Kd.V_below (pv HO0_4.out) hb)
 replace BK219 := am (blk_below (pk BK219.out) hb)
 replace BK220 := am (blk_below (pk BK220.out) hb)
 replace BK222 := am (blk_below (pk BK222.out) hb)
 replace HB := am (below_step (pb HB) hb)
 (try clear hb)
 (try clear hb2)
 (try clear hk)
 (try clear hi)
 refine hK.out _ _ ⟨ce BK219 0, ce BK219 1, ce BK219 2, ce BK219 3, ce BK219 4⟩ (fun hHeld => ?_)
 clear hK K
 refine nm ?_
 refine pu 10 ?_
 exact nj (hCont (gb222) _ ⟨hHeld, (pv (Kd.V_mono HO0_4.out (fun _ hk => ⟨hk.1.1.1, ⟨hk.1.1.2, ⟨hk.1.2, hk.2⟩⟩⟩))), (pk BK219.out), (pk BK220.out), (pk BK222.out), GW222.out, GE222.out, NB219_222.out, NB222_219.out, NB220_222.out, NB222_220.out, (pb HB)⟩)
set_option maxHeartbeats 1000000 in
theorem CloneL_calls (P : Nat → Prop) (A0 : Option Addr) (c0 : Nat) (l0 : List S42) (w : World) (hF : Kd.F k42 w P A0 l0.length l0) (hc0 : l0.length ≤ c0) (hl : l0.length < 1000000) :
  Calls Try.prog 43 #[.slice A0 l0.length c0] w fun e w' => ∃ v0_ : Value, e = .returned v0_ ∧ Kd.N k42 42 w' w.heap.size (fun k => P k ∨ w.heap.size ≤ k) v0_ l0 ∧ Below w.heap.size w w' := by
 have HF := am (Kd.F_bound hF)
 have HL := am (show l0.length * 72 ≤ 140737488355328 by omega)
 clear hl
 cases A0 with
 | none =>
  have h0 : l0 = [] := by
   rcases Nat.eq_zero_or_pos l0.length with h0 | h0
   ·exact List.eq_nil_of_length_eq_zero h0
   ·obtain ⟨ad, he, _⟩ := (Kd.F_now hF).2.2 h0
    cases he
  clear hF HF HL
  subst h0
  have HE : ∀ W : World, (binOp .eql 26 (.slice none 0 c0) (.slice none 0 0)).run Try.prog W = .ok (.bool true) W := fun W => Lib.run_eql_slice_nil W 26 42 none _ c0 0 0 Try.underlying26
  go_enter Try.func43, Try.ntmps43
  go_wp2
  go_ret
  exact ⟨_, rfl, Kd.N_nil _ _ _ _ _, Below.refl _ _⟩
 | some ad =>
  clear hF
  have HE : ∀ W : World, (binOp .eql 26 (.slice (some ad) l0.length c0) (.slice none 0 0)).run Try.prog W = .ok (.bool false) W := fun W => Lib.run_eql_slice_nil W 26 42 (some ad) l0.length c0 0 0 Try.underlying26
  go_enter Try.func43, Try.ntmps43
  go_wp2_with (((with_reducible refine gate_builtin (b := .append) (xs := #[.tmp 5, .tmp 6]) rfl ?_); at_builtin; refine Kd.N_append_rows k42 (w0 := w) w.heap.size rfl (.tmp 5) (.tmp 6) 26 42 (.agg #[.string ⟨#[]⟩, .int .u64 0, .int .u64 0, .int .u64 0, .int .i64 0, .slice none 0 0]) 72 rfl Try.underlying26 (by kernel_rfl) rfl (by decide) (by omega) (.slice (some ⟨w.heap.size, 0, none⟩) 0 0) [] l0 (some ad) l0.length c0 (fun k => P k ∨ w.heap.size ≤ k) (fun k => P k ∧ k < w.heap.size) rfl rfl ?aO ?aC ?aP ?aF ?aB ?aS ?aL ?_; (case aO => exact Kd.R_N ⟨fun k hk => .inr (by simp [Value.ownBlock] at hk; omega), [], World.ownsRow_lit (base := w.heap.size) (e := 42) (size := 6) w #[] 0 (Nat.le_refl _) (by decide) rfl, Reps.none _ _⟩); (case aC => exact Kd.F_alloc HF.out _); (case aP => exact fun k_ hk_ => ⟨.inl hk_.1, fun e => by simp [Value.ownBlock] at e; have := hk_.2; omega⟩); (case aF => exact fun k hk => .inr (by simp at hk; omega)); (case aB => exact below_alloc (Below.refl _ _) _); (case aS => exact (below_alloc (Below.refl _ _) _).size); (case aL => simpa using HL.out); intro v1 w1 hr hb hg hat; have HN1 := am hr; have HB1 := am hb; clear hr hb hg hat))
  go_ret
  exact ⟨_, rfl, by have h := HN1.out; rwa [List.nil_append] at h, HB1.out⟩





end Go.Proofs.Ytpbiobbddgipkaa.H
