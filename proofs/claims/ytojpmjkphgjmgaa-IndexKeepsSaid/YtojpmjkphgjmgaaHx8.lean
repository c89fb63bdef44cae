import Derived.Test.YtojpmjkphgjmgaaHx0
import Derived.Test.YtojpmjkphgjmgaaHx6
namespace Go.Proofs.Ytojpmjkphgjmgaa.H
open Go.RowKit Go.Proofs.YtojpmjkphgjmgaaW.PrintWords Go.Proofs.YtojpmjkphgjmgaaW.PrintLast Go.Proofs.YtojpmjkphgjmgaaW.PrintMore Go.Proofs.YtojpmjkphgjmgaaW.Sq
attribute [local go_sem] max2_int min2_int max_two min_two max_three min_three max_four min_four
set_option linter.unusedVariables false
set_option linter.unusedSimpArgs false

def index_grown.l0 : Nat → List (S60) → Int → Int → Int → Int → List (S60) → Option (Int × Int × (List (S60)))
 | 0, _, _, _, _, _, _ => none
 | k + 1, x17, x18, x19, x197000, x197001, x197002 => if x19 < x18 then (if 0 ≤ x19 then (if x19 < (x17.length : Int) then (if (rd_T60 x17 x19).f0 = true then ((index_walk.f k x197000 x197001 x197002 ((rd_T60 x17 x19).f1)).bind fun bt199 => (if 0 ≤ bt199.1 then (if bt199.1 < (x197002.length : Int) then (index_grown.l0 k x17 x18 (wrap64 (x19 + 1)) x197000 x197001 (x197002.set (bt199.1 : Int).toNat (⟨(rd_T60 x17 x19).f0, (rd_T60 x17 x19).f1, (rd_T60 x17 x19).f2⟩ : S60))) else (none)) else (none))) else (index_grown.l0 k x17 x18 (wrap64 (x19 + 1)) x197000 x197001 x197002)) else (none)) else (none)) else (some (x197000, x197001, x197002))
def index_grown.f (k : Nat) (a0_0 : Int) (a0_1 : Int) (l0_2 : List (S60)) : Option (Int × Int × (List (S60))) := if 0 ≤ (wrap64 (2 * (l0_2.length : Int))) then (if (wrap64 (2 * (l0_2.length : Int)) : Int).toNat ≤ 8796093022208 then (index_grown.l0 k l0_2 (l0_2.length : Int) 0 a0_0 a0_1 (List.replicate (wrap64 (2 * (l0_2.length : Int)) : Int).toNat z60)) else (none)) else (none)
theorem index_grown.mono_l : ∀ k, (∀ y0 y1 y2 y3 y4 y5, LeO (index_grown.l0 k y0 y1 y2 y3 y4 y5) (index_grown.l0 (k + 1) y0 y1 y2 y3 y4 y5))
 | 0 => fun _ _ _ _ _ _ r h => by simp [index_grown.l0] at h
 | k + 1 => by
  have ih0 := index_grown.mono_l k
  ·intro y0 y1 y2 y3 y4 y5
   unfold index_grown.l0
   repeat' first
   | (with_reducible exact ih0 _ _ _ _ _ _)
   | (with_reducible exact index_walk.mono _ _ _ _ _)
   | (with_reducible exact LeO.refl _)
   | (with_reducible exact LeO.none _)
   | (with_reducible refine LeO.ite ?_ ?_)
   | (with_reducible refine LeO.bind ?_ (fun _ => ?_))
theorem index_grown.mono : ∀ a0 a1 a2 k, LeO (index_grown.f k a0 a1 a2) (index_grown.f (k + 1) a0 a1 a2) := by
 intro a0 a1 a2 k
 have ih0 := index_grown.mono_l k
 unfold index_grown.f
 repeat' first
   | (with_reducible exact ih0 _ _ _ _ _ _)
   | (with_reducible exact index_walk.mono _ _ _ _ _)
   | (with_reducible exact LeO.refl _)
   | (with_reducible exact LeO.none _)
   | (with_reducible refine LeO.ite ?_ ?_)
   | (with_reducible refine LeO.bind ?_ (fun _ => ?_))
def index_grown.T1 : Bool × List (List Nat × List Nat) := (true, [([], []), ([0], [0]), ([], []), ([2], [2]), ([3], [3]), ([4], [4]), ([5, 5], [5]), ([1, 6], [1, 6]), ([], []), ([8, 7, 0, 1, 2, 3, 4, 5, 6, 7, 8], [7, 8])])
def index_grown.B1 : List Nat := [0, 1, 0, 4, 12, 28, 60, 127, 0, 511]
theorem index_grown.tab1 : rtab .any (opsOf Try.f27 1) = index_grown.T1 := by kernel_rfl
theorem index_grown.bits1 : waitsOk index_grown.T1.2 index_grown.B1 = true := by kernel_rfl
set_option maxHeartbeats 8000000 in
set_option maxRecDepth 100000 in
theorem index_grown.calls (k : Nat) (a0_0 : Int) (a0_1 : Int) (A0_2 : Option Addr) (c0_2 : Nat) (l0_2 : List (S60)) (r1 : Int) (r2 : Int) (r3 : List (S60)) (w : World) (hr0_2 : Kd.C k60 w A0_2 l0_2.length l0_2) (hc0_2 : l0_2.length ≤ c0_2) (h : index_grown.f k a0_0 a0_1 l0_2 = some (r1, r2, r3)) :
  Calls Try.prog 27 #[.agg #[.int .u64 a0_0, .int .u64 a0_1, .slice A0_2 l0_2.length c0_2]] w fun e w' => ∃ v2_ : Value, e = .returned (.agg #[.int .u64 r1, .int .u64 r2, v2_]) ∧ Kd.R k60 60 w' w.heap.size (fun _ => True) v2_ r3 ∧ Below w.heap.size w w' := by
 have hu27 := Try.underlying27
 have hu24 := Try.underlying24
 have hu60 := Try.underlying60
 have HR0_2 := am hr0_2
 have HC0_2 := am hc0_2
 clear hr0_2 hc0_2
 have HB := am (Below.refl w.heap.size w)
 have H : (if 0 ≤ (wrap64 (2 * (l0_2.length : Int))) then (if (wrap64 (2 * (l0_2.length : Int)) : Int).toNat ≤ 8796093022208 then (index_grown.l0 k l0_2 (l0_2.length : Int) 0 a0_0 a0_1 (List.replicate (wrap64 (2 * (l0_2.length : Int)) : Int).toNat z60)) else (none)) else (none)) = some (r1, r2, r3) := h
 clear h
 obtain ⟨ji2, hji2⟩ : ∃ j_ : Int, (wrap64 (2 * (l0_2.length : Int))) = j_ := ⟨_, rfl⟩
 replace H : (if 0 ≤ (ji2) then (if (ji2 : Int).toNat ≤ 8796093022208 then (index_grown.l0 k l0_2 (l0_2.length : Int) 0 a0_0 a0_1 (List.replicate (ji2 : Int).toNat z60)) else (none)) else (none)) = some (r1, r2, r3) := by first | (rw [hji2] at H; exact H) | (simp only [hji2] at H ⊢; exact H)
 have hji2w : (IntKind.i64.wrap (2 * (l0_2.length : Int))) = ji2 := (i64_w _).trans hji2
 by_cases c3 : 0 ≤ (ji2)
 rotate_left
 ·rw [if_neg c3] at H
  exact absurd H (by simp)
 rw [if_pos c3] at H
 have c3b0 := eq_true c3
 have c3b1 : decide (0 ≤ (ji2)) = true := decide_eq_true c3
 clear c3
 by_cases c4 : (ji2 : Int).toNat ≤ 8796093022208
 rotate_left
 ·rw [if_neg c4] at H
  exact absurd H (by simp)
 rw [if_pos c4] at H
 have c4b0 := eq_true c4
 have c4b1 : decide ((ji2 : Int).toNat ≤ 8796093022208) = true := decide_eq_true c4
 clear c4
 obtain ⟨y193, hy193⟩ : ∃ y_ : List (S60), y_ = (List.replicate (ji2 : Int).toNat z60) := ⟨_, rfl⟩
 replace H : (index_grown.l0 k l0_2 (l0_2.length : Int) 0 a0_0 a0_1 y193) = some (r1, r2, r3) := by first | (rw [hy193]; with_reducible exact H) | (have H2_ := (Option.bind_some _ _).symm.trans H; rw [hy193]; with_reducible exact H2_) | (have H2_ := (Option.bind_some _ _).symm.trans H; with_reducible exact H2_) | with_reducible exact H | (rw [hy193]; exact H) | exact H
 have Ny193 := am hy193
 clear hy193
 have H' := am H
 clear H
 go_enter Try.func27, Try.ntmps27
 try go_wp2_with (first | ((with_reducible refine gate_dst (N := 1) rfl ?_); refine be 1 #[.int .u64 a0_0, .int .u64 a0_1, .slice A0_2 l0_2.length c0_2] 27 ?_; intro gb191 hg w5 hbox hb; have n0_ := am (below_step (pb HB) hb); have n1_ := am (hbox); have n2_ := am ((pg hg HB : w.heap.size ≤ gb191)); have n3_ := am ((pg hg HB : w.heap.size ≤ gb191)); clear HB; have HB := n0_; have BK191 := n1_; have GW191 := n2_; have GE191 := n3_; clear n0_ n1_ n2_ n3_; clear hb hbox hg) | ((with_reducible refine gate_dst (N := 2) rfl ?_); refine be 2 #[.int .u64 0, .int .u64 0, .slice none 0 0] 27 ?_; intro gb192 hg w6 hbox hb; have n0_ := am (blk_below (pk BK191.out) hb); have n1_ := am (below_step (pb HB) hb); have n2_ := am (hbox); have n3_ := am ((pg hg HB : w.heap.size ≤ gb192)); have n4_ := am ((pg hg HB : w.heap.size ≤ gb192)); have n5_ := am ((pl hg (pk BK191.out) : gb191 ≠ gb192)); have n6_ := am ((pl' hg (pk BK191.out) : gb192 ≠ gb191)); clear BK191; clear HB; have BK191 := n0_; have HB := n1_; have BK192 := n2_; have GW192 := n3_; have GE192 := n4_; have NB191_192 := n5_; have NB192_191 := n6_; clear n0_ n1_ n2_ n3_ n4_ n5_ n6_; clear hb hbox hg))
 replace BK191 := am (blk_drew BK191.out)
 replace BK192 := am (blk_drew BK192.out)
 replace HB := am (below_drew1 HB.out)
 refine start_ (n := 10) (S := fun w' => w'.cell? ⟨gb191, 0, none⟩ = some (.int .u64 a0_0) ∧ w'.cell? ⟨gb191, 1, none⟩ = some (.int .u64 a0_1) ∧ w'.cell? ⟨gb191, 2, none⟩ = some (.slice A0_2 l0_2.length c0_2)) (ds := []) #[false, false, false, false, false, false, false, false, false, false] (by kernel_rfl) rfl rfl ⟨ce BK191 0, ce BK191 1, ce BK191 2⟩ (fun hHeld => ?_); refine with_tabW index_grown.tab1 index_grown.bits1 (fun HT_ HW_ => ?_)
 generalize w6.drew = w7 at BK191 BK192 HB hHeld ⊢
 refine pu 0 ?_
 refine pu 2 ?_
 refine ta 1 hHeld ?_
 refine ta 3 hHeld ?_
 refine pu 4 ?_
 refine pu 5 ?_
 refine join_ (σ := Value × Nat) 1 #[true, true, true, true, true, true, true, true, true, false] (fun s_ => [(14, s_.1), (3, .pointer (some ⟨s_.2, 0, none⟩)), (15, .agg #[.int .u64 a0_0, .int .u64 a0_1, s_.1])]) (fun s_ w' => (w'.cell? ⟨gb191, 0, none⟩ = some (.int .u64 a0_0) ∧ w'.cell? ⟨gb191, 1, none⟩ = some (.int .u64 a0_1) ∧ w'.cell? ⟨gb191, 2, none⟩ = some (.slice A0_2 l0_2.length c0_2)) ∧ (Kd.R k60 60 w' w.heap.size (fun _ => True) s_.1 y193) ∧ (w'.heap[gb191]? = some (.cells #[.int .u64 a0_0, .int .u64 a0_1, .slice A0_2 l0_2.length c0_2] 27 (0, 0))) ∧ (w'.heap[gb192]? = some (.cells #[.int .u64 0, .int .u64 0, .slice none 0 0] 27 (0, 0))) ∧ (w'.heap[s_.2]? = some (.cells #[.int .u64 0, .int .u64 0, .slice none 0 0] 27 (0, 0))) ∧ (w.heap.size ≤ s_.2) ∧ (w.heap.size ≤ s_.2) ∧ (gb191 ≠ s_.2) ∧ (s_.2 ≠ gb191) ∧ (gb192 ≠ s_.2) ∧ (s_.2 ≠ gb192) ∧ (Below w.heap.size w w')) ?_ ?_
 rotate_left
 ·intro hCont
  refine two_ (i := 6) (j := 8) (Ni := some 14) (Nj := some 3) #[true, true, true, true, true, true, true, false, false, false] #[true, true, true, true, true, true, false, false, true, false] rfl rfl rfl rfl (two_of HT_.out (by kernel_rfl)) (by decide) (by decide) (fun K hK => ?_) (fun K hK => ?_)
  ·skip
   refine Kd.R_make_step k60 _ 60 (by rfl) (N := 14) rfl 25 _ _ rfl ji2 rfl rfl Try.underlying25 (.agg #[(.bool false), (.string ⟨#[]⟩), (.int .i64 0)]) 32 info60 rfl (by decide) (by omega) z60 (ok := fun _ => True) (okp := fun _ => True) (k60_mkM _ _ _ z60 ) (fun _ hk => hk) trivial (of_decide_eq_true (by first | (with_reducible assumption) | assumption)) (Nat.le_trans (Nat.mul_le_mul_right _ (of_decide_eq_true (by first | (with_reducible assumption) | assumption) : ji2.toNat ≤ 8796093022208)) (by omega)) (Below.refl _ _) (Nat.le_refl _) ?_
   intro v194 w8 ho9 hb hg_ hnew_
   clear hg_ hnew_
   (first | rw [← Ny193.out] at ho9 | (simp only [Int.reduceToNat] at ho9; rw [← Ny193.out] at ho9))
   have n0_ := am (Kd.R_lower ho9 (below_size (pb HB)))
   have n1_ := am (blk_below (pk BK191.out) hb)
   have n2_ := am (blk_below (pk BK192.out) hb)
   have n3_ := am (below_step (pb HB) hb)
   clear BK191 BK192 HB
   have HO195 := n0_
   have BK191 := n1_
   have BK192 := n2_
   have HB := n3_
   clear n0_ n1_ n2_ n3_ hb ho9
   obtain ⟨Ao10, co10, eo10⟩ := Kd.R_slice HO195.out
   (first | subst eo10 | (injection eo10 with f1_ f2_ f3_; have f4_ := f1_.symm; have f5_ := f3_.symm; clear f1_ f2_ f3_; subst f4_; subst f5_))
   refine hK.out _ _ ⟨ce BK191 0, ce BK191 1, ce BK191 2⟩ (fun hHeld => ?_)
   clear hK K
   refine nm ?_
   refine pu 7 ?_
   refine on1 8 (fun K hK => ?_)
   refine bx 3 #[.int .u64 0, .int .u64 0, .slice none 0 0] 27 ?_
   intro gb196 hg w11 hbox hb
   have n0_ := am (Kd.R_below (pr HO195.out) hb)
   have n1_ := am (blk_below (pk BK191.out) hb)
   have n2_ := am (blk_below (pk BK192.out) hb)
   have n3_ := am (below_step (pb HB) hb)
   have n4_ := am (hbox)
   have n5_ := am ((pg hg HB : w.heap.size ≤ gb196))
   have n6_ := am ((pg hg HB : w.heap.size ≤ gb196))
   have n7_ := am ((pl hg (pk BK191.out) : gb191 ≠ gb196))
   have n8_ := am ((pl' hg (pk BK191.out) : gb196 ≠ gb191))
   have n9_ := am ((pl hg (pk BK192.out) : gb192 ≠ gb196))
   have n10_ := am ((pl' hg (pk BK192.out) : gb196 ≠ gb192))
   clear HO195 BK191 BK192 HB
   have HO195 := n0_
   have BK191 := n1_
   have BK192 := n2_
   have HB := n3_
   have BK196 := n4_
   have GW196 := n5_
   have GE196 := n6_
   have NB191_196 := n7_
   have NB196_191 := n8_
   have NB192_196 := n9_
   have NB196_192 := n10_
   clear n0_ n1_ n2_ n3_ n4_ n5_ n6_ n7_ n8_ n9_ n10_ hb hbox hg
   refine hK.out _ _ ⟨ce BK191 0, ce BK191 1, ce BK191 2⟩ (fun hHeld => ?_)
   clear hK K
   refine nm ?_
   exact nj (hCont (.slice Ao10 y193.length co10, gb196) _ ⟨hHeld, (pr HO195.out), (pk BK191.out), (pk BK192.out), (pk BK196.out), GW196.out, GE196.out, NB191_196.out, NB196_191.out, NB192_196.out, NB196_192.out, (pb HB)⟩)
  ·skip
   refine bx 3 #[.int .u64 0, .int .u64 0, .slice none 0 0] 27 ?_
   intro gb196 hg w8 hbox hb
   have n0_ := am (blk_below (pk BK191.out) hb)
   have n1_ := am (blk_below (pk BK192.out) hb)
   have n2_ := am (below_step (pb HB) hb)
   have n3_ := am (hbox)
   have n4_ := am ((pg hg HB : w.heap.size ≤ gb196))
   have n5_ := am ((pg hg HB : w.heap.size ≤ gb196))
   have n6_ := am ((pl hg (pk BK191.out) : gb191 ≠ gb196))
   have n7_ := am ((pl' hg (pk BK191.out) : gb196 ≠ gb191))
   have n8_ := am ((pl hg (pk BK192.out) : gb192 ≠ gb196))
   have n9_ := am ((pl' hg (pk BK192.out) : gb196 ≠ gb192))
   clear BK191 BK192 HB
   have BK191 := n0_
   have BK192 := n1_
   have HB := n2_
   have BK196 := n3_
   have GW196 := n4_
   have GE196 := n5_
   have NB191_196 := n6_
   have NB196_191 := n7_
   have NB192_196 := n8_
   have NB196_192 := n9_
   clear n0_ n1_ n2_ n3_ n4_ n5_ n6_ n7_ n8_ n9_ hb hbox hg
   refine hK.out _ _ ⟨ce BK191 0, ce BK191 1, ce BK191 2⟩ (fun hHeld => ?_)
   clear hK K
   refine nm ?_
   refine on1 6 (fun K hK => ?_)
   refine Kd.R_make_step k60 _ 60 (by rfl) (N := 14) rfl 25 _ _ rfl ji2 rfl rfl Try.underlying25 (.agg #[(.bool false), (.string ⟨#[]⟩), (.int .i64 0)]) 32 info60 rfl (by decide) (by omega) z60 (ok := fun _ => True) (okp := fun _ => True) (k60_mkM _ _ _ z60 ) (fun _ hk => hk) trivial (of_decide_eq_true (by first | (with_reducible assumption) | assumption)) (Nat.le_trans (Nat.mul_le_mul_right _ (of_decide_eq_true (by first | (with_reducible assumption) | assumption) : ji2.toNat ≤ 8796093022208)) (by omega)) (Below.refl _ _) (Nat.le_refl _) ?_
   intro v194 w9 ho10 hb hg_ hnew_
   clear hg_ hnew_
   (first | rw [← Ny193.out] at ho10 | (simp only [Int.reduceToNat] at ho10; rw [← Ny193.out] at ho10))
   have n0_ := am (Kd.R_lower ho10 (below_size (pb HB)))
   have n1_ := am (blk_below (pk BK191.out) hb)
   have n2_ := am (blk_below (pk BK192.out) hb)
   have n3_ := am (blk_below (pk BK196.out) hb)
   have n4_ := am (below_step (pb HB) hb)
   clear BK191 BK192 BK196 HB
   have HO195 := n0_
   have BK191 := n1_
   have BK192 := n2_
   have BK196 := n3_
   have HB := n4_
   clear n0_ n1_ n2_ n3_ n4_ hb ho10
   obtain ⟨Ao11, co11, eo11⟩ := Kd.R_slice HO195.out
   (first | subst eo11 | (injection eo11 with f1_ f2_ f3_; have f4_ := f1_.symm; have f5_ := f3_.symm; clear f1_ f2_ f3_; subst f4_; subst f5_))
   refine hK.out _ _ ⟨ce BK191 0, ce BK191 1, ce BK191 2⟩ (fun hHeld => ?_)
   clear hK K
   refine nm ?_
   refine pu 7 ?_
   exact nj (hCont (.slice Ao11 y193.length co11, gb196) _ ⟨hHeld, (pr HO195.out), (pk BK191.out), (pk BK192.out), (pk BK196.out), GW196.out, GE196.out, NB191_196.out, NB196_191.out, NB192_196.out, NB196_192.out, (pb HB)⟩)
 rintro ⟨v194, gb196⟩ w12 ⟨hS_, h0_, h1_, h2_, h3_, h4_, h5_, h6_, h7_, h8_, h9_, h10_⟩
 have HO195 : Aside0 (Kd.R k60 60 w12 w.heap.size (fun _ => True) v194 y193) := ⟨h0_⟩
 replace BK191 : Aside0 (w12.heap[gb191]? = some (.cells #[.int .u64 a0_0, .int .u64 a0_1, .slice A0_2 l0_2.length c0_2] 27 (0, 0))) := ⟨h1_⟩
 replace BK192 : Aside0 (w12.heap[gb192]? = some (.cells #[.int .u64 0, .int .u64 0, .slice none 0 0] 27 (0, 0))) := ⟨h2_⟩
 have BK196 : Aside0 (w12.heap[gb196]? = some (.cells #[.int .u64 0, .int .u64 0, .slice none 0 0] 27 (0, 0))) := ⟨h3_⟩
 have GW196 : Aside0 (w.heap.size ≤ gb196) := ⟨h4_⟩
 have GE196 : Aside0 (w.heap.size ≤ gb196) := ⟨h5_⟩
 have NB191_196 : Aside0 (gb191 ≠ gb196) := ⟨h6_⟩
 have NB196_191 : Aside0 (gb196 ≠ gb191) := ⟨h7_⟩
 have NB192_196 : Aside0 (gb192 ≠ gb196) := ⟨h8_⟩
 have NB196_192 : Aside0 (gb196 ≠ gb192) := ⟨h9_⟩
 replace HB : Aside0 (Below w.heap.size w w12) := ⟨h10_⟩
 clear h0_ h1_ h2_ h3_ h4_ h5_ h6_ h7_ h8_ h9_ h10_
 have hHeld : w12.cell? ⟨gb191, 0, none⟩ = some (.int .u64 a0_0) ∧ w12.cell? ⟨gb191, 1, none⟩ = some (.int .u64 a0_1) ∧ w12.cell? ⟨gb191, 2, none⟩ = some (.slice A0_2 l0_2.length c0_2) := hS_
 obtain ⟨Ao13, co13, eo13⟩ := Kd.R_slice HO195.out
 (first | subst eo13 | (injection eo13 with f1_ f2_ f3_; have f4_ := f1_.symm; have f5_ := f3_.symm; clear f1_ f2_ f3_; subst f4_; subst f5_))
 refine norm_ (a' := ?_) ?_ ?_
 rotate_left
 ·simp only [putAll, Act.put, List.setIfInBounds_toArray, List.set_cons_zero, List.set_cons_succ]
  rfl
 refine one_ (i := 9) (N := none) #[true, true, true, true, true, true, true, true, true, true] rfl rfl (one_of HT_.out (by kernel_rfl)) (by decide) (fun K hK => ?_)
 have hs14 : w12.cell? ⟨gb196, 0, none⟩ = some (.int .u64 0) := ce BK196 0
 have hfs14 := blk_frozen BK196.out 0
 have hns14_0 := NB191_196.out
 have hns14_1 := NB192_196.out
 have hms14_0 := NB196_191.out
 have hms14_1 := NB196_192.out
 have hs15 : w12.cell? ⟨gb196, 1, none⟩ = some (.int .u64 0) := ce BK196 1
 have hfs15 := blk_frozen BK196.out 1
 have hns15_0 := NB191_196.out
 have hns15_1 := NB192_196.out
 have hms15_0 := NB196_191.out
 have hms15_1 := NB196_192.out
 have hs16 : w12.cell? ⟨gb196, 2, none⟩ = some (.slice none 0 0) := ce BK196 2
 have hfs16 := blk_frozen BK196.out 2
 have hns16_0 := NB191_196.out
 have hns16_1 := NB192_196.out
 have hms16_0 := NB196_191.out
 have hms16_1 := NB196_192.out
 refine skip_ (w1 := ?_) (by rfl) rfl ?_ ?_
 rotate_left
 ·go_simp
  rfl
 refine hK.out _ _ ⟨((cell_far (p := ⟨gb196, _, none⟩) NB191_196.out _).trans (((cell_far (p := ⟨gb196, _, none⟩) NB191_196.out _).trans (((cell_far (p := ⟨gb196, _, none⟩) NB191_196.out _).trans (hHeld.1)))))), ((cell_far (p := ⟨gb196, _, none⟩) NB191_196.out _).trans (((cell_far (p := ⟨gb196, _, none⟩) NB191_196.out _).trans (((cell_far (p := ⟨gb196, _, none⟩) NB191_196.out _).trans (hHeld.2.1)))))), ((cell_far (p := ⟨gb196, _, none⟩) NB191_196.out _).trans (((cell_far (p := ⟨gb196, _, none⟩) NB191_196.out _).trans (((cell_far (p := ⟨gb196, _, none⟩) NB191_196.out _).trans (hHeld.2.2))))))⟩ (fun hHeld => ?_)
 clear hK K
 refine done_ (done_of HT_.out (by kernel_rfl)) ?_
 have hnb17 := NB191_192.out
 have hnc17 := NB192_191.out
 have hnb18 := NB191_196.out
 have hnc18 := NB196_191.out
 have hcz19_0 := ce BK191 0
 have hcz19_1 := ce BK191 1
 have hcz19_2 := ce BK191 2
 have hfz19_0 := fz BK191 0
 have hfz19_1 := fz BK191 1
 have hfz19_2 := fz BK191 2
 try go_wp2
 go_loopg [19] k (fun kq v19 w' => ∃ (x19_1 : Int) (x197002_1 : List (S60)) (u197002 : Value), v19 = .int .i64 x19_1 ∧ Aside0 (index_grown.l0 kq l0_2 (l0_2.length : Int) x19_1 a0_0 a0_1 x197002_1 = some (r1, r2, r3)) ∧ Aside0 (kq ≤ k) ∧ Aside0 (Kd.R k60 60 w' w.heap.size (fun _ => True) u197002 x197002_1) ∧ Aside0 (w'.heap[gb191]? = some (.cells #[.int .u64 a0_0, .int .u64 a0_1, (.slice A0_2 l0_2.length c0_2)] 27 (0, 0))) ∧ Aside0 (w'.heap[gb192]? = some (.cells #[.int .u64 0, .int .u64 0, (.slice none 0 0)] 27 (0, 0))) ∧ Aside0 (w'.heap[gb196]? = some (.cells #[.int .u64 a0_0, .int .u64 a0_1, u197002] 27 (0, 0))) ∧ Aside0 (Below w.heap.size w w'))
 case atStart => exact ⟨(0), (y193), (.slice Ao13 y193.length co13), (by first | rfl | (simp; done) | (simp [*]; done)), H', ⟨Nat.le_refl _⟩, ⟨by refine pr ?_; exact Kd.R_mono (Kd.R_far (p := ⟨gb196, 2, none⟩) (Kd.R_far (p := ⟨gb196, 1, none⟩) (Kd.R_far (p := ⟨gb196, 0, none⟩) (Kd.R_types HO195.out BK196.out (by decide)) (fun _ hk => hk.2) (.int .u64 a0_0)) (fun _ hk => hk.2) (.int .u64 a0_1)) (fun _ hk => hk.2) (.slice Ao13 y193.length co13)) (fun _ hk => trivial)⟩, ⟨by refine pk ?_; refine blk_far ?_ NB191_196.out _; refine pk ?_; refine blk_far ?_ NB191_196.out _; refine pk ?_; refine blk_far ?_ NB191_196.out _; refine pk ?_; exact BK191.out⟩, ⟨by refine pk ?_; refine blk_far ?_ NB192_196.out _; refine pk ?_; refine blk_far ?_ NB192_196.out _; refine pk ?_; refine blk_far ?_ NB192_196.out _; refine pk ?_; exact BK192.out⟩, ⟨by refine pk ?_; refine blk_put (cs := #[.int .u64 a0_0, .int .u64 a0_1, .slice none 0 0]) ?_ 2 _ rfl; refine pk ?_; refine blk_put (cs := #[.int .u64 a0_0, .int .u64 0, .slice none 0 0]) ?_ 1 _ rfl; refine pk ?_; refine blk_put (cs := #[.int .u64 0, .int .u64 0, .slice none 0 0]) ?_ 0 _ rfl; refine pk ?_; exact BK196.out⟩, ⟨pb HB⟩⟩
 case round =>
  clear H'
  try clear c1
  try clear c2
  try clear p2
  try clear c3
  try clear c3b0
  try clear c3b1
  try clear c4
  try clear c4b0
  try clear c4b1
  try clear p6
  try clear c17
  try clear c18
  try clear hcz19_0 hcz19_1 hcz19_2 hfz19_0 hfz19_1 hfz19_2
  obtain ⟨x19_1, x197002_1, u197002, rfl, HA, HK1, HO_197002, BK191, BK192, BK196, HB⟩ := hrel
  cases gk with
  | zero => exact absurd HA.out (by simp [index_grown.l0])
  | succ k1 =>
   have H := HA.out
   clear HA
   simp only [index_grown.l0] at H
   by_cases c20 : x19_1 < (l0_2.length : Int)
   ·rw [if_pos c20] at H
    have c20b0 : decide (x19_1 < (l0_2.length : Int)) = true := decide_eq_true c20
    clear c20
    by_cases c21 : 0 ≤ x19_1
    ·rw [if_pos c21] at H
     have c21b0 : decide (0 ≤ x19_1) = true := decide_eq_true c21
     clear c21
     by_cases c22 : x19_1 < (l0_2.length : Int)
     ·rw [if_pos c22] at H
      have c22b0 : decide (x19_1 < (l0_2.length : Int)) = true := decide_eq_true c22
      clear c22
      obtain ⟨bq23, hbq23⟩ : ∃ b_ : Bool, b_ = ((rd_T60 l0_2 x19_1).f0) := ⟨_, rfl⟩
      replace H : (if bq23 = true then ((index_walk.f k1 a0_0 a0_1 x197002_1 ((rd_T60 l0_2 x19_1).f1)).bind fun bt199 => (if 0 ≤ bt199.1 then (if bt199.1 < (x197002_1.length : Int) then (index_grown.l0 k1 l0_2 (l0_2.length : Int) (wrap64 (x19_1 + 1)) a0_0 a0_1 (x197002_1.set (bt199.1 : Int).toNat (⟨bq23, (rd_T60 l0_2 x19_1).f1, (rd_T60 l0_2 x19_1).f2⟩ : S60))) else (none)) else (none))) else (index_grown.l0 k1 l0_2 (l0_2.length : Int) (wrap64 (x19_1 + 1)) a0_0 a0_1 x197002_1)) = some (r1, r2, r3) := by rw [← hbq23] at H; exact H
      have Nbq23 := am hbq23
      clear hbq23
      by_cases c24 : bq23 = true
      ·subst c24
       have H1 : ((index_walk.f k1 a0_0 a0_1 x197002_1 ((rd_T60 l0_2 x19_1).f1)).bind fun bt199 => (if 0 ≤ bt199.1 then (if bt199.1 < (x197002_1.length : Int) then (index_grown.l0 k1 l0_2 (l0_2.length : Int) (wrap64 (x19_1 + 1)) a0_0 a0_1 (x197002_1.set (bt199.1 : Int).toNat (⟨true, (rd_T60 l0_2 x19_1).f1, (rd_T60 l0_2 x19_1).f2⟩ : S60))) else (none)) else (none))) = some (r1, r2, r3) := by rw [if_pos rfl] at H; exact H
       clear H
       have H := H1
       clear H1
       replace H := Option.bind_eq_some_iff.mp H
       obtain ⟨⟨t199, t200⟩, A250, H⟩ := H
       replace H : (if 0 ≤ t199 then (if t199 < (x197002_1.length : Int) then (index_grown.l0 k1 l0_2 (l0_2.length : Int) (wrap64 (x19_1 + 1)) a0_0 a0_1 (x197002_1.set (t199 : Int).toNat (⟨true, (rd_T60 l0_2 x19_1).f1, (rd_T60 l0_2 x19_1).f2⟩ : S60))) else (none)) else (none)) = some (r1, r2, r3) := H
       have A25 := am A250
       clear A250
       by_cases c26 : 0 ≤ t199
       ·rw [if_pos c26] at H
        have c26b0 : decide (0 ≤ t199) = true := decide_eq_true c26
        clear c26
        by_cases c27 : t199 < (x197002_1.length : Int)
        ·rw [if_pos c27] at H
         have c27b0 : decide (t199 < (x197002_1.length : Int)) = true := decide_eq_true c27
         clear c27
         obtain ⟨y201, hy201⟩ : ∃ y_ : List (S60), y_ = (x197002_1.set (t199 : Int).toNat (⟨true, (rd_T60 l0_2 x19_1).f1, (rd_T60 l0_2 x19_1).f2⟩ : S60)) := ⟨_, rfl⟩
         replace H : (index_grown.l0 k1 l0_2 (l0_2.length : Int) (wrap64 (x19_1 + 1)) a0_0 a0_1 y201) = some (r1, r2, r3) := by first | (rw [hy201]; with_reducible exact H) | (have H2_ := (Option.bind_some _ _).symm.trans H; rw [hy201]; with_reducible exact H2_) | (have H2_ := (Option.bind_some _ _).symm.trans H; with_reducible exact H2_) | with_reducible exact H | (rw [hy201]; exact H) | exact H
         have Ny201 := am hy201
         clear hy201
         have H' := am H
         clear H
         have p197 : 0 ≤ (x19_1 : Int) := of_decide_eq_true (by first | (with_reducible assumption) | assumption)
         have q197 : x19_1 < (l0_2.length : Int) := of_decide_eq_true (by first | (with_reducible assumption) | assumption)
         obtain ⟨ad197, e197, hx197_0, hx197_1, hx197_2⟩ := at_T60 HR0_2.out x19_1 p197 q197
         (try rw [← Nbq23.out] at hx197_0)
         cases e197
         replace hx197_0 := (HB.out.cell (World.block_lt_of_cell? w _ hx197_0)).trans hx197_0
         replace hx197_1 := (HB.out.cell (World.block_lt_of_cell? w _ hx197_1)).trans hx197_1
         replace hx197_2 := (HB.out.cell (World.block_lt_of_cell? w _ hx197_2)).trans hx197_2
         replace p197 := eq_true p197
         replace q197 := eq_true q197
         go_wp2_with (first | ((with_reducible refine gate_dst (N := 5) rfl ?_); refine be 5 #[.bool false, .string (⟨#[]⟩ : ByteArray), .int .i64 0] 60 ?_; intro gb198 hg w29 hbox hb; have n0_ := am (Kd.R_below (Kd.R_elderB (pr HO_197002.out) gb198 (Nat.le_of_eq hg.symm)) hb); have n1_ := am (blk_below (pk BK191.out) hb); have n2_ := am (blk_below (pk BK192.out) hb); have n3_ := am (blk_below (pk BK196.out) hb); have n4_ := am (below_step (pb HB) hb); have n5_ := am (hbox); have n6_ := am ((pg hg HB : w.heap.size ≤ gb198)); have n7_ := am ((pg hg HB : w.heap.size ≤ gb198)); have n8_ := am ((pl hg (pk BK191.out) : gb191 ≠ gb198)); have n9_ := am ((pl' hg (pk BK191.out) : gb198 ≠ gb191)); have n10_ := am ((pl hg (pk BK192.out) : gb192 ≠ gb198)); have n11_ := am ((pl' hg (pk BK192.out) : gb198 ≠ gb192)); have n12_ := am ((pl hg (pk BK196.out) : gb196 ≠ gb198)); have n13_ := am ((pl' hg (pk BK196.out) : gb198 ≠ gb196)); clear HO_197002; clear BK191; clear BK192; clear BK196; clear HB; have HO_197002 := n0_; have BK191 := n1_; have BK192 := n2_; have BK196 := n3_; have HB := n4_; have BK198 := n5_; have GW198 := n6_; have GE198 := n7_; have NB191_198 := n8_; have NB198_191 := n9_; have NB192_198 := n10_; have NB198_192 := n11_; have NB196_198 := n12_; have NB198_196 := n13_; clear n0_ n1_ n2_ n3_ n4_ n5_ n6_ n7_ n8_ n9_ n10_ n11_ n12_ n13_; clear hb hbox hg; have hnb30 := NB198_191.out; have hnc30 := NB191_198.out; have hnb31 := NB198_192.out; have hnc31 := NB192_198.out; have hnb32 := NB198_196.out; have hnc32 := NB196_198.out; have hcz33_0 := ce BK198 0; have hcz33_1 := ce BK198 1; have hcz33_2 := ce BK198 2; have hfz33_0 := fz BK198 0; have hfz33_1 := fz BK198 1; have hfz33_2 := fz BK198 2; have hnb34 := NB196_191.out; have hnc34 := NB191_196.out; have hnb35 := NB196_192.out; have hnc35 := NB192_196.out; have hcz36_0 := ce BK196 0; have hcz36_1 := ce BK196 1; have hcz36_2 := ce BK196 2; have hfz36_0 := fz BK196 0; have hfz36_1 := fz BK196 1; have hfz36_2 := fz BK196 2; obtain ⟨Ao37, co37, eo37⟩ := Kd.R_slice HO_197002.out; subst eo37) | ((with_reducible refine gate_callee (f := 25) rfl ?_); refine gl (some 29) Try.func25 #[.agg #[.int .u64 a0_0, .int .u64 a0_1, .slice Ao37 x197002_1.length co37], .string ((rd_T60 l0_2 x19_1).f1)] ?_; (with_reducible refine (index_walk.calls k1 a0_0 a0_1 _ _ x197002_1 ((rd_T60 l0_2 x19_1).f1) t199 t200 _ ?side1 ?side2 A25.out).mono ?_); (case side1 => refine (Kd.R_reads' (e := 60) (base := w.heap.size) (ok := fun k_ => (True ∧ k_ ≠ gb198)) (n := x197002_1.length) (c := co37) ?_).2.2; exact (pr ((Kd.R_mono (Kd.R_far (p := ⟨gb198, 2, none⟩) (Kd.R_far (p := ⟨gb198, 1, none⟩) (Kd.R_far (p := ⟨gb198, 0, none⟩) (Kd.R_mono HO_197002.out (fun k_ hk => (⟨hk, hk.2⟩ : _ ∧ k_ ≠ gb198))) (fun _ hk => hk.2) (.bool true)) (fun _ hk => hk.2) (.string ((rd_T60 l0_2 x19_1).f1))) (fun _ hk => hk.2) (.int .i64 ((rd_T60 l0_2 x19_1).f2))) (fun _ h_ => h_.1))))); (case side2 => exact (Kd.R_reads' HO_197002.out).2.1); rintro e w38 ⟨rfl, hb⟩; refine ⟨_, rfl, ?_⟩; replace HO_197002 := am (Kd.R_below (pr ((Kd.R_mono (Kd.R_far (p := ⟨gb198, 2, none⟩) (Kd.R_far (p := ⟨gb198, 1, none⟩) (Kd.R_far (p := ⟨gb198, 0, none⟩) (Kd.R_mono HO_197002.out (fun k_ hk => (⟨hk, hk.2⟩ : _ ∧ k_ ≠ gb198))) (fun _ hk => hk.2) (.bool true)) (fun _ hk => hk.2) (.string ((rd_T60 l0_2 x19_1).f1))) (fun _ hk => hk.2) (.int .i64 ((rd_T60 l0_2 x19_1).f2))) (fun _ h_ => h_.1)))) hb); replace BK191 := am (blk_below (g := gb191) (o := .cells #[.int .u64 a0_0, .int .u64 a0_1, .slice (some ad197) l0_2.length c0_2] 27 (0, 0)) (by refine pk ?_; refine blk_far ?_ NB191_198.out _; refine pk ?_; refine blk_far ?_ NB191_198.out _; refine pk ?_; refine blk_far ?_ NB191_198.out _; refine pk ?_; exact BK191.out) hb); replace BK192 := am (blk_below (g := gb192) (o := .cells #[.int .u64 0, .int .u64 0, .slice none 0 0] 27 (0, 0)) (by refine pk ?_; refine blk_far ?_ NB192_198.out _; refine pk ?_; refine blk_far ?_ NB192_198.out _; refine pk ?_; refine blk_far ?_ NB192_198.out _; refine pk ?_; exact BK192.out) hb); replace BK196 := am (blk_below (g := gb196) (o := .cells #[.int .u64 a0_0, .int .u64 a0_1, .slice Ao37 x197002_1.length co37] 27 (0, 0)) (by refine pk ?_; refine blk_far ?_ NB196_198.out _; refine pk ?_; refine blk_far ?_ NB196_198.out _; refine pk ?_; refine blk_far ?_ NB196_198.out _; refine pk ?_; exact BK196.out) hb); replace BK198 := am (blk_below (g := gb198) (o := .cells #[.bool true, .string ((rd_T60 l0_2 x19_1).f1), .int .i64 ((rd_T60 l0_2 x19_1).f2)] 60 (0, 0)) (by refine pk ?_; refine blk_put (cs := #[.bool true, .string ((rd_T60 l0_2 x19_1).f1), .int .i64 0]) ?_ 2 _ rfl; refine pk ?_; refine blk_put (cs := #[.bool true, .string (⟨#[]⟩ : ByteArray), .int .i64 0]) ?_ 1 _ rfl; refine pk ?_; refine blk_put (cs := #[.bool false, .string (⟨#[]⟩ : ByteArray), .int .i64 0]) ?_ 0 _ rfl; refine pk ?_; exact BK198.out) hb); replace HB := am (below_step (pb HB) hb); (try clear hb); (try clear hb2); (try clear hk); (try clear hi); have hcz39_0 := ce BK196 0; have hcz39_1 := ce BK196 1; have hcz39_2 := ce BK196 2; have hfz39_0 := fz BK196 0; have hfz39_1 := fz BK196 1; have hfz39_2 := fz BK196 2; have hcz40_0 := ce BK198 0; have hcz40_1 : w38.cell? ⟨gb198, 1, none⟩ = some (.string ((rd_T60 l0_2 x19_1).f1)) := ce BK198 1; have hcz40_2 : w38.cell? ⟨gb198, 2, none⟩ = some (.int .i64 ((rd_T60 l0_2 x19_1).f2)) := ce BK198 2; have hfz40_0 := fz BK198 0; have hfz40_1 := fz BK198 1; have hfz40_2 := fz BK198 2; have p28 : 0 ≤ (t199 : Int) := of_decide_eq_true (by first | (with_reducible assumption) | assumption); have q28 : (t199 : Int) < ((x197002_1.length : Int) : Int) := of_decide_eq_true (by first | (with_reducible assumption) | assumption); obtain ⟨go28, co28, eo28, gb28, gl28, cl28, HG28⟩ := Kd.R_form HO_197002.out (by omega); (first | cases eo28 | (injection eo28 with ea_ en_ ec_; (first | subst ea_ | (injection ea_ with ea_; subst ea_)); subst ec_; clear en_)); have GB28 := am gb28; have GG28 := am HG28; clear gb28 gl28 HG28; obtain ⟨ce28, hcl28, hM28, hcc28, hfr28⟩ := Kd.R_elem HO_197002.out z60 (t199 : Int) p28 q28; obtain rfl := k60_openM hM28; have hx28_0 : w38.cell? ⟨go28, (t199 : Int).toNat * 3, none⟩ = some (.bool ((rd_T60 x197002_1 t199).f0)) := hcc28 0 _ rfl; have hx28_1 : w38.cell? ⟨go28, (t199 : Int).toNat * 3 + 1, none⟩ = some (.string ((rd_T60 x197002_1 t199).f1)) := hcc28 1 _ rfl; have hx28_2 : w38.cell? ⟨go28, (t199 : Int).toNat * 3 + 2, none⟩ = some (.int .i64 ((rd_T60 x197002_1 t199).f2)) := hcc28 2 _ rfl; have hf28_0 : w38.frozen? ⟨go28, (t199 : Int).toNat * 3, none⟩ = false := hfr28 0; have hf28_1 : w38.frozen? ⟨go28, (t199 : Int).toNat * 3 + 1, none⟩ = false := hfr28 1; have hf28_2 : w38.frozen? ⟨go28, (t199 : Int).toNat * 3 + 2, none⟩ = false := hfr28 2; clear hcl28 hcc28 hfr28 hM28; replace p28 := eq_true p28; replace q28 := eq_true q28; have n_ := am (Kd.R_mono (ok' := (fun k_ => k_ ≠ gb198)) HO_197002.out (fun k_ hk => hk.2)); clear HO_197002; have HO_197002 := n_; clear n_; have HX41 := am (show Kd.R k60 60 w38 w.heap.size (fun k_ => k_ ≠ gb198) (.slice (some ⟨go28, 0, none⟩) x197002_1.length co37) x197002_1 from (pr HO_197002.out)); obtain ⟨ce41, hcl41, hM41, hcc41, hfr41⟩ := Kd.R_elem HX41.out z60 (t199 : Int) (of_decide_eq_true (by first | (with_reducible assumption) | assumption)) (by have h_ : (t199 : Int) < ((x197002_1.length : Int) : Int) := of_decide_eq_true (by first | (with_reducible assumption) | assumption); first | exact h_ | (have e_ := (Kd.R_reads' HO_197002.out).1; omega) | simpa using h_); obtain rfl := k60_openM hM41; have HP41 := Kd.R_seg HX41.out (t199 : Int) (of_decide_eq_true (by first | (with_reducible assumption) | assumption)) (by have h_ : (t199 : Int) < ((x197002_1.length : Int) : Int) := of_decide_eq_true (by first | (with_reducible assumption) | assumption); first | exact h_ | (have e_ := (Kd.R_reads' HO_197002.out).1; omega) | simpa using h_) (seg := [.bool true, .string ((rd_T60 l0_2 x19_1).f1), .int .i64 ((rd_T60 l0_2 x19_1).f2)]) (j := 0) hcl41 hcc41 (show 3 ≤ 3 from by decide) (x' := (⟨true, (rd_T60 l0_2 x19_1).f1, (rd_T60 l0_2 x19_1).f2⟩ : S60)) (k60_mkM _ _ _ (⟨true, (rd_T60 l0_2 x19_1).f1, (rd_T60 l0_2 x19_1).f2⟩ : S60) ) (fun _ hk => hk); have hx41_0 := hcc41 0 _ rfl; (try simp only [show (k60).sz = 3 from rfl, Nat.mul_one, Nat.add_zero] at hx41_0); have hf41_0 := hfr41 0; (try simp only [show (k60).sz = 3 from rfl, Nat.mul_one, Nat.add_zero] at hf41_0); have hx41_1 := hcc41 1 _ rfl; (try simp only [show (k60).sz = 3 from rfl, Nat.mul_one, Nat.add_zero] at hx41_1); have hf41_1 := hfr41 1; (try simp only [show (k60).sz = 3 from rfl, Nat.mul_one, Nat.add_zero] at hf41_1); have hx41_2 := hcc41 2 _ rfl; (try simp only [show (k60).sz = 3 from rfl, Nat.mul_one, Nat.add_zero] at hx41_2); have hf41_2 := hfr41 2; (try simp only [show (k60).sz = 3 from rfl, Nat.mul_one, Nat.add_zero] at hf41_2); clear hcl41 hcc41 hfr41 hM41) | ((with_reducible refine gate_store (t := 60) (p := 36) rfl ?_); refine store_event (t := 60) (p := 36) (v := ?vo_w42) (w1 := (((w38.setCell ⟨go28, (t199 : Int).toNat * 3, none⟩ (.bool true)).setCell ⟨go28, (t199 : Int).toNat * 3 + 1, none⟩ (.string ((rd_T60 l0_2 x19_1).f1))).setCell ⟨go28, (t199 : Int).toNat * 3 + 2, none⟩ (.int .i64 ((rd_T60 l0_2 x19_1).f2)))) ?hg ?ho ?hn ?hr ?_; (case ho => rfl); (case hg => rfl); (case hn => rfl); (case hr => first | (go_simp; done) | (go_simp; rfl)); intro w42 hw; have hg : w38.grownBy w42 (some go28) := (by rw [hw]; exact HP41.2); have hp_ : Kd.R k60 60 w42 w.heap.size (fun k_ => k_ ≠ gb198) (.slice (some ⟨go28, 0, none⟩) x197002_1.length co37) y201 := (by rw [hw, Ny201.out]; exact HP41.1); clear HP41; have n0_ := am (hp_); have n1_ := am (blk_grown (g := gb191) (o := .cells #[.int .u64 a0_0, .int .u64 a0_1, .slice (some ad197) l0_2.length c0_2] 27 (0, 0)) (pk BK191.out) hg (Kd.R_ne HO_197002.out BK191.out (by decide))); have n2_ := am (blk_grown (g := gb192) (o := .cells #[.int .u64 0, .int .u64 0, .slice none 0 0] 27 (0, 0)) (pk BK192.out) hg (Kd.R_ne HO_197002.out BK192.out (by decide))); have n3_ := am (blk_grown (g := gb196) (o := .cells #[.int .u64 a0_0, .int .u64 a0_1, .slice (some ⟨go28, 0, none⟩) x197002_1.length co37] 27 (0, 0)) (pk BK196.out) hg (Kd.R_ne HO_197002.out BK196.out (by decide))); have n4_ := am (blk_grown (g := gb198) (o := .cells #[.bool true, .string ((rd_T60 l0_2 x19_1).f1), .int .i64 ((rd_T60 l0_2 x19_1).f2)] 60 (0, 0)) (pk BK198.out) hg (Kd.R_away HO_197002.out (fun _ hk => hk))); have n5_ := am ((by rw [hw]; exact below_set (below_set (below_set (HB.out) GB28.out) GB28.out) GB28.out : Below w.heap.size w w42)); clear HO_197002; clear BK191; clear BK192; clear BK196; clear BK198; clear HB; have HO_197002 := n0_; have BK191 := n1_; have BK192 := n2_; have BK196 := n3_; have BK198 := n4_; have HB := n5_; clear n0_ n1_ n2_ n3_ n4_ n5_; clear hg hw hp_))
         go_roundg k1
         case measure => have := HK1.out; omega
         case rel => exact ⟨(wrap64 (x19_1 + 1)), (y201), (.slice (some ⟨go28, 0, none⟩) x197002_1.length co37), (by first | rfl | (simp; done) | (simp [*]; done)), H', ⟨by have := HK1.out; omega⟩, ⟨by refine pr ?_; exact Kd.R_mono HO_197002.out (fun _ hk => trivial)⟩, ⟨pk BK191.out⟩, ⟨pk BK192.out⟩, ⟨pk BK196.out⟩, ⟨pb HB⟩⟩
        ·rw [if_neg c27] at H
         exact absurd H (by simp)
       ·rw [if_neg c26] at H
        exact absurd H (by simp)
      ·replace c24 := Bool.eq_false_iff.mpr c24
       subst c24
       have H1 : (index_grown.l0 k1 l0_2 (l0_2.length : Int) (wrap64 (x19_1 + 1)) a0_0 a0_1 x197002_1) = some (r1, r2, r3) := by rw [if_neg (show ¬ (false = true) by decide)] at H; exact H
       clear H
       have H := H1
       clear H1
       have H' := am H
       clear H
       have p197 : 0 ≤ (x19_1 : Int) := of_decide_eq_true (by first | (with_reducible assumption) | assumption)
       have q197 : x19_1 < (l0_2.length : Int) := of_decide_eq_true (by first | (with_reducible assumption) | assumption)
       obtain ⟨ad197, e197, hx197_0, hx197_1, hx197_2⟩ := at_T60 HR0_2.out x19_1 p197 q197
       (try rw [← Nbq23.out] at hx197_0)
       cases e197
       replace hx197_0 := (HB.out.cell (World.block_lt_of_cell? w _ hx197_0)).trans hx197_0
       replace hx197_1 := (HB.out.cell (World.block_lt_of_cell? w _ hx197_1)).trans hx197_1
       replace hx197_2 := (HB.out.cell (World.block_lt_of_cell? w _ hx197_2)).trans hx197_2
       replace p197 := eq_true p197
       replace q197 := eq_true q197
       go_wp2_with (first | ((with_reducible refine gate_dst (N := 5) rfl ?_); refine be 5 #[.bool false, .string (⟨#[]⟩ : ByteArray), .int .i64 0] 60 ?_; intro gb198 hg w43 hbox hb; have n0_ := am (Kd.R_below (Kd.R_elderB (pr HO_197002.out) gb198 (Nat.le_of_eq hg.symm)) hb); have n1_ := am (blk_below (pk BK191.out) hb); have n2_ := am (blk_below (pk BK192.out) hb); have n3_ := am (blk_below (pk BK196.out) hb); have n4_ := am (below_step (pb HB) hb); have n5_ := am (hbox); have n6_ := am ((pg hg HB : w.heap.size ≤ gb198)); have n7_ := am ((pg hg HB : w.heap.size ≤ gb198)); have n8_ := am ((pl hg (pk BK191.out) : gb191 ≠ gb198)); have n9_ := am ((pl' hg (pk BK191.out) : gb198 ≠ gb191)); have n10_ := am ((pl hg (pk BK192.out) : gb192 ≠ gb198)); have n11_ := am ((pl' hg (pk BK192.out) : gb198 ≠ gb192)); have n12_ := am ((pl hg (pk BK196.out) : gb196 ≠ gb198)); have n13_ := am ((pl' hg (pk BK196.out) : gb198 ≠ gb196)); clear HO_197002; clear BK191; clear BK192; clear BK196; clear HB; have HO_197002 := n0_; have BK191 := n1_; have BK192 := n2_; have BK196 := n3_; have HB := n4_; have BK198 := n5_; have GW198 := n6_; have GE198 := n7_; have NB191_198 := n8_; have NB198_191 := n9_; have NB192_198 := n10_; have NB198_192 := n11_; have NB196_198 := n12_; have NB198_196 := n13_; clear n0_ n1_ n2_ n3_ n4_ n5_ n6_ n7_ n8_ n9_ n10_ n11_ n12_ n13_; clear hb hbox hg; have hnb44 := NB198_191.out; have hnc44 := NB191_198.out; have hnb45 := NB198_192.out; have hnc45 := NB192_198.out; have hnb46 := NB198_196.out; have hnc46 := NB196_198.out; have hcz47_0 := ce BK198 0; have hcz47_1 := ce BK198 1; have hcz47_2 := ce BK198 2; have hfz47_0 := fz BK198 0; have hfz47_1 := fz BK198 1; have hfz47_2 := fz BK198 2))
       go_roundg k1
       case measure => have := HK1.out; omega
       case rel => exact ⟨(wrap64 (x19_1 + 1)), (x197002_1), (u197002), (by first | rfl | (simp; done) | (simp [*]; done)), H', ⟨by have := HK1.out; omega⟩, ⟨by refine pr ?_; exact Kd.R_mono (Kd.R_far (p := ⟨gb198, 2, none⟩) (Kd.R_far (p := ⟨gb198, 1, none⟩) (Kd.R_far (p := ⟨gb198, 0, none⟩) (Kd.R_mono HO_197002.out (fun k_ hk => (⟨hk, hk.2⟩ : _ ∧ k_ ≠ gb198))) (fun _ hk => hk.2) (.bool false)) (fun _ hk => hk.2) (.string ((rd_T60 l0_2 x19_1).f1))) (fun _ hk => hk.2) (.int .i64 ((rd_T60 l0_2 x19_1).f2))) (fun _ hk => trivial)⟩, ⟨by refine pk ?_; refine blk_far ?_ NB191_198.out _; refine pk ?_; refine blk_far ?_ NB191_198.out _; refine pk ?_; refine blk_far ?_ NB191_198.out _; refine pk ?_; exact BK191.out⟩, ⟨by refine pk ?_; refine blk_far ?_ NB192_198.out _; refine pk ?_; refine blk_far ?_ NB192_198.out _; refine pk ?_; refine blk_far ?_ NB192_198.out _; refine pk ?_; exact BK192.out⟩, ⟨by refine pk ?_; refine blk_far ?_ NB196_198.out _; refine pk ?_; refine blk_far ?_ NB196_198.out _; refine pk ?_; refine blk_far ?_ NB196_198.out _; refine pk ?_; exact BK196.out⟩, ⟨pb HB⟩⟩
     ·rw [if_neg c22] at H
      exact absurd H (by simp)
    ·rw [if_neg c21] at H
     exact absurd H (by simp)
   ·rw [if_neg c20] at H
    have c20b0 : decide (x19_1 < (l0_2.length : Int)) = false := decide_eq_false c20
    clear c20
    simp only [Option.some.injEq, Prod.mk.injEq] at H
    obtain ⟨rfl, rfl, rfl⟩ := H
    have hnb48 := NB196_191.out
    have hnc48 := NB191_196.out
    have hnb49 := NB196_192.out
    have hnc49 := NB192_196.out
    have hcz50_0 := ce BK196 0
    have hcz50_1 := ce BK196 1
    have hcz50_2 := ce BK196 2
    have hfz50_0 := fz BK196 0
    have hfz50_1 := fz BK196 1
    have hfz50_2 := fz BK196 2
    have hnb51 := NB192_191.out
    have hnc51 := NB191_192.out
    have hcz52_0 := ce BK192 0
    have hcz52_1 := ce BK192 1
    have hcz52_2 := ce BK192 2
    have hfz52_0 := fz BK192 0
    have hfz52_1 := fz BK192 1
    have hfz52_2 := fz BK192 2
    obtain ⟨Ao53, co53, eo53⟩ := Kd.R_slice HO_197002.out
    subst eo53
    go_wp2
    refine bodyPost_ret (results_cell_row rfl _ _ gb192 27 #[.int .u64 a0_0, .int .u64 a0_1, .slice Ao53 x197002_1.length co53] (0, 0) _ rfl (by refine pk ?_; refine blk_put (cs := #[.int .u64 a0_0, .int .u64 a0_1, .slice none 0 0]) ?_ 2 _ rfl; refine pk ?_; refine blk_put (cs := #[.int .u64 a0_0, .int .u64 0, .slice none 0 0]) ?_ 1 _ rfl; refine pk ?_; refine blk_put (cs := #[.int .u64 0, .int .u64 0, .slice none 0 0]) ?_ 0 _ rfl; refine pk ?_; exact BK192.out) Try.underlying27 rfl (by kernel_rfl)) rfl ?_
    exact ⟨_, by first | rfl | (simp [errW_none, errW_some] <;> rfl) | (simp only [← hji2]; first | rfl | (simp [errW_none, errW_some] <;> rfl)) | (simp [*, errW_none, errW_some] <;> rfl), by refine pr ?_; exact Kd.R_mono (Kd.R_far (p := ⟨gb192, 2, none⟩) (Kd.R_far (p := ⟨gb192, 1, none⟩) (Kd.R_far (p := ⟨gb192, 0, none⟩) (Kd.R_types HO_197002.out BK192.out (by decide)) (fun _ hk => hk.2) (.int .u64 a0_0)) (fun _ hk => hk.2) (.int .u64 a0_1)) (fun _ hk => hk.2) (.slice Ao53 x197002_1.length co53)) (fun _ hk => trivial), pb HB⟩
def index_Slot_28.f (l0 : List S60) : Option (List S60) := if l0.length < 1099511627776 then some l0 else none
set_option maxHeartbeats 1000000 in
theorem index_Slot_28.calls (A0 : Option Addr) (c0 : Nat) (l0 : List S60) (r : List S60) (w : World) (hr0 : Kd.C k60 w A0 l0.length l0) (hc0 : l0.length ≤ c0) (h : index_Slot_28.f l0 = some r) :
  Calls Try.prog 28 #[.slice A0 l0.length c0] w fun e w' => ∃ v0_ : Value, e = .returned v0_ ∧ Kd.R k60 60 w' w.heap.size (fun _ => True) v0_ r ∧ Below w.heap.size w w' := by
 unfold index_Slot_28.f at h
 by_cases hl : l0.length < 1099511627776
 case neg => rw [if_neg hl] at h; cases h
 rw [if_pos hl] at h
 obtain rfl := Option.some.inj h
 clear h
 have HR := am hr0
 have HL := am (show l0.length * 32 ≤ 140737488355328 by omega)
 clear hl
 cases A0 with
 | none =>
  have h0 : l0 = [] := by
   rcases Nat.eq_zero_or_pos l0.length with h0 | h0
   ·exact List.eq_nil_of_length_eq_zero h0
   ·obtain ⟨ad, he, _⟩ := hr0.2.2 h0
    cases he
  clear hr0 HL
  subst h0
  have HE : ∀ W : World, (binOp .eql 25 (.slice none 0 c0) (.slice none 0 0)).run Try.prog W = .ok (.bool true) W := fun W => Lib.run_eql_slice_nil W 25 60 none _ c0 0 0 Try.underlying25
  go_enter Try.func28, Try.ntmps28
  go_wp2
  go_ret
  exact ⟨_, rfl, Kd.R_nil _ _ _ _ _, Below.refl _ _⟩
 | some ad =>
  clear hr0
  have HE : ∀ W : World, (binOp .eql 25 (.slice (some ad) l0.length c0) (.slice none 0 0)).run Try.prog W = .ok (.bool false) W := fun W => Lib.run_eql_slice_nil W 25 60 (some ad) l0.length c0 0 0 Try.underlying25
  go_enter Try.func28, Try.ntmps28
  go_wp2_with (((with_reducible refine gate_builtin (b := .append) (xs := #[.tmp 5, .tmp 6]) rfl ?_); at_builtin; refine Kd.R_append_rows k60 (Rr := k60.K w) (w0 := w) w.heap.size rfl (.tmp 5) (.tmp 6) 25 60 (.agg #[.bool false, .string ⟨#[]⟩, .int .i64 0]) 32 rfl Try.underlying25 info60 rfl (by decide) (by omega) (.slice (some ⟨w.heap.size, 0, none⟩) 0 0) [] l0 (some ad) l0.length c0 (fun _ => True) (fun k_ => k_ ≠ w.heap.size) rfl rfl ?aO ?aC ?aK ?aP ?aF ?aB ?aS ?aL ?_; (case aO => exact ⟨fun _ _ => trivial, [], World.ownsRow_lit (base := w.heap.size) (e := 60) (size := 3) w #[] 0 (Nat.le_refl _) (by decide) rfl, Reps.none _ _⟩); (case aC => exact Kd.C_below HR.out (below_alloc (Below.refl _ _) _)); (case aK => intro x cs hK; obtain rfl := k60_open hK; exact k60_mkM _ _ _ x); (case aP => exact fun k_ hk_ => ⟨trivial, fun e => hk_ (by simpa [Value.ownBlock] using e)⟩); (case aF => exact fun _ _ => trivial); (case aB => exact below_alloc (Below.refl _ _) _); (case aS => exact (below_alloc (Below.refl _ _) _).size); (case aL => simpa using HL.out); intro v1 w1 hr hb hg hat; have HN1 := am hr; have HB1 := am hb; clear hr hb hg hat))
  go_ret
  exact ⟨_, rfl, by have h := HN1.out; rwa [List.nil_append] at h, HB1.out⟩
end Go.Proofs.Ytojpmjkphgjmgaa.H
