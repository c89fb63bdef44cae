import Derived.Test.YtojpmjkphgjmgaaHx0
import Derived.Test.YtojpmjkphgjmgaaHx6
import Derived.Test.YtojpmjkphgjmgaaHx7
import Derived.Test.YtojpmjkphgjmgaaHx9
import Derived.Test.YtojpmjkphgjmgaaHx10
namespace Go.Proofs.Ytojpmjkphgjmgaa.H
open Go.RowKit Go.Proofs.YtojpmjkphgjmgaaW.PrintWords Go.Proofs.YtojpmjkphgjmgaaW.PrintLast Go.Proofs.YtojpmjkphgjmgaaW.PrintMore Go.Proofs.YtojpmjkphgjmgaaW.Sq
attribute [local go_sem] max2_int min2_int max_two min_two max_three min_three max_four min_four
set_option linter.unusedVariables false
set_option linter.unusedSimpArgs false

def index_Many.f (k : Nat) (a0_0 : Int) (a0_1 : Int) (l0_2 : List (S60)) : Option (Int) := (index_Right.f k a0_0 a0_1 l0_2).bind fun t241 => (if t241 = true then ((index_many.f k a0_0 a0_1 l0_2).bind fun t242 => (some t242)) else (some 0))
theorem index_Many.mono : ∀ a0 a1 a2 k, LeO (index_Many.f k a0 a1 a2) (index_Many.f (k + 1) a0 a1 a2) := by
 intro a0 a1 a2 k
 unfold index_Many.f
 repeat' first
   | (with_reducible exact index_Right.mono _ _ _ _)
   | (with_reducible exact index_many.mono _ _ _ _)
   | (with_reducible exact LeO.refl _)
   | (with_reducible exact LeO.none _)
   | (with_reducible refine LeO.ite ?_ ?_)
   | (with_reducible refine LeO.bind ?_ (fun _ => ?_))
set_option maxHeartbeats 8000000 in
set_option maxRecDepth 100000 in
theorem index_Many.calls (k : Nat) (a0_0 : Int) (a0_1 : Int) (A0_2 : Option Addr) (c0_2 : Nat) (l0_2 : List (S60)) (r : Int) (w : World) (hr0_2 : Kd.C k60 w A0_2 l0_2.length l0_2) (hc0_2 : l0_2.length ≤ c0_2) (h : index_Many.f k a0_0 a0_1 l0_2 = some r) :
  Calls Try.prog 16 #[.agg #[.int .u64 a0_0, .int .u64 a0_1, .slice A0_2 l0_2.length c0_2]] w fun e w' => e = .returned (.int .i64 r) ∧ Below w.heap.size w w' := by
 have hu27 := Try.underlying27
 have HR0_2 := am hr0_2
 have HC0_2 := am hc0_2
 clear hr0_2 hc0_2
 have HB := am (Below.refl w.heap.size w)
 have H : ((index_Right.f k a0_0 a0_1 l0_2).bind fun t241 => (if t241 = true then ((index_many.f k a0_0 a0_1 l0_2).bind fun t242 => (some t242)) else (some 0))) = some r := h
 clear h
 replace H := Option.bind_eq_some_iff.mp H
 obtain ⟨t241, A20, H⟩ := H
 replace H : (if t241 = true then ((index_many.f k a0_0 a0_1 l0_2).bind fun t242 => (some t242)) else (some 0)) = some r := H
 have A2 := am A20
 clear A20
 by_cases c3 : t241 = true
 rotate_left
 ·replace c3 := Bool.eq_false_iff.mpr c3
  subst c3
  have H1 : (some 0) = some r := by rw [if_neg (show ¬ (false = true) by decide)] at H; exact H
  clear H
  have H := H1
  clear H1
  obtain rfl := Option.some.inj H
  go_enter Try.func16, Try.ntmps16
  go_wp2_with (first | ((with_reducible refine gate_dst (N := 1) rfl ?_); refine be 1 #[.int .u64 a0_0, .int .u64 a0_1, .slice A0_2 l0_2.length c0_2] 27 ?_; intro gb240 hg w10 hbox hb; have n0_ := am (below_step (pb HB) hb); have n1_ := am (hbox); have n2_ := am ((pg hg HB : w.heap.size ≤ gb240)); have n3_ := am ((pg hg HB : w.heap.size ≤ gb240)); clear HB; have HB := n0_; have BK240 := n1_; have GW240 := n2_; have GE240 := n3_; clear n0_ n1_ n2_ n3_; clear hb hbox hg; have hcz11_0 := ce BK240 0; have hcz11_1 := ce BK240 1; have hcz11_2 := ce BK240 2; have hfz11_0 := fz BK240 0; have hfz11_1 := fz BK240 1; have hfz11_2 := fz BK240 2) | ((with_reducible refine gate_callee (f := 15) rfl ?_); refine gl (some 4) Try.func15 #[.agg #[.int .u64 a0_0, .int .u64 a0_1, .slice A0_2 l0_2.length c0_2]] ?_; (with_reducible refine (index_Right.calls k a0_0 a0_1 _ _ l0_2 false _ ?side1 ?side2 A2.out).mono ?_); (case side1 => repeat (first | exact (Kd.C_below HR0_2.out HB.out) | (with_reducible refine Kd.C_alloc ?_ _) | (with_reducible refine Kd.C_drewN ?_ _) | (with_reducible refine Kd.C_drew ?_))); (case side2 => exact HC0_2.out); rintro e w12 ⟨rfl, hb⟩; refine ⟨_, rfl, ?_⟩; replace BK240 := am (blk_below (pk BK240.out) hb); replace HB := am (below_step (pb HB) hb); (try clear hb); (try clear hb2); (try clear hk); (try clear hi)))
  go_ret
  exact ⟨by first | rfl | (simp [errW_none, errW_some] <;> rfl) | (simp [*, errW_none, errW_some] <;> rfl), pb HB⟩
 subst c3
 have H1 : ((index_many.f k a0_0 a0_1 l0_2).bind fun t242 => (some t242)) = some r := by rw [if_pos rfl] at H; exact H
 clear H
 have H := H1
 clear H1
 replace H := Option.bind_eq_some_iff.mp H
 obtain ⟨t242, A40, H⟩ := H
 replace H : (some t242) = some r := H
 have A4 := am A40
 clear A40
 obtain rfl := Option.some.inj H
 go_enter Try.func16, Try.ntmps16
 go_wp2_with (first | ((with_reducible refine gate_dst (N := 1) rfl ?_); refine be 1 #[.int .u64 a0_0, .int .u64 a0_1, .slice A0_2 l0_2.length c0_2] 27 ?_; intro gb240 hg w5 hbox hb; have n0_ := am (below_step (pb HB) hb); have n1_ := am (hbox); have n2_ := am ((pg hg HB : w.heap.size ≤ gb240)); have n3_ := am ((pg hg HB : w.heap.size ≤ gb240)); clear HB; have HB := n0_; have BK240 := n1_; have GW240 := n2_; have GE240 := n3_; clear n0_ n1_ n2_ n3_; clear hb hbox hg; have hcz6_0 := ce BK240 0; have hcz6_1 := ce BK240 1; have hcz6_2 := ce BK240 2; have hfz6_0 := fz BK240 0; have hfz6_1 := fz BK240 1; have hfz6_2 := fz BK240 2) | ((with_reducible refine gate_callee (f := 15) rfl ?_); refine gl (some 4) Try.func15 #[.agg #[.int .u64 a0_0, .int .u64 a0_1, .slice A0_2 l0_2.length c0_2]] ?_; (with_reducible refine (index_Right.calls k a0_0 a0_1 _ _ l0_2 true _ ?side1 ?side2 A2.out).mono ?_); (case side1 => repeat (first | exact (Kd.C_below HR0_2.out HB.out) | (with_reducible refine Kd.C_alloc ?_ _) | (with_reducible refine Kd.C_drewN ?_ _) | (with_reducible refine Kd.C_drew ?_))); (case side2 => exact HC0_2.out); rintro e w7 ⟨rfl, hb⟩; refine ⟨_, rfl, ?_⟩; replace BK240 := am (blk_below (pk BK240.out) hb); replace HB := am (below_step (pb HB) hb); (try clear hb); (try clear hb2); (try clear hk); (try clear hi); have hcz8_0 := ce BK240 0; have hcz8_1 := ce BK240 1; have hcz8_2 := ce BK240 2; have hfz8_0 := fz BK240 0; have hfz8_1 := fz BK240 1; have hfz8_2 := fz BK240 2) | ((with_reducible refine gate_callee (f := 26) rfl ?_); refine gl (some 7) Try.func26 #[.agg #[.int .u64 a0_0, .int .u64 a0_1, .slice A0_2 l0_2.length c0_2]] ?_; (with_reducible refine (index_many.calls k a0_0 a0_1 _ _ l0_2 t242 _ ?side1 ?side2 A4.out).mono ?_); (case side1 => repeat (first | exact (Kd.C_below HR0_2.out HB.out) | (with_reducible refine Kd.C_alloc ?_ _) | (with_reducible refine Kd.C_drewN ?_ _) | (with_reducible refine Kd.C_drew ?_))); (case side2 => exact HC0_2.out); rintro e w9 ⟨rfl, hb⟩; refine ⟨_, rfl, ?_⟩; replace BK240 := am (blk_below (pk BK240.out) hb); replace HB := am (below_step (pb HB) hb); (try clear hb); (try clear hb2); (try clear hk); (try clear hi)))
 go_ret
 exact ⟨by first | rfl | (simp [errW_none, errW_some] <;> rfl) | (simp [*, errW_none, errW_some] <;> rfl), pb HB⟩
def index_New.f (a0_0 : Int) (a0_1 : Int) : Option (Int × Int × (List (S60))) := if 8 ≤ 8796093022208 then (some (a0_0, a0_1, (List.replicate 8 z60))) else (none)
set_option maxHeartbeats 8000000 in
set_option maxRecDepth 100000 in
theorem index_New.calls (a0_0 : Int) (a0_1 : Int) (r1 : Int) (r2 : Int) (r3 : List (S60)) (w : World) (h : index_New.f a0_0 a0_1 = some (r1, r2, r3)) :
  Calls Try.prog 22 #[.agg #[.int .u64 a0_0, .int .u64 a0_1]] w fun e w' => ∃ v2_ : Value, e = .returned (.agg #[.int .u64 r1, .int .u64 r2, v2_]) ∧ Kd.R k60 60 w' w.heap.size (fun _ => True) v2_ r3 ∧ Below w.heap.size w w' := by
 have hu24 := Try.underlying24
 have hu27 := Try.underlying27
 have HB := am (Below.refl w.heap.size w)
 have H : (if 8 ≤ 8796093022208 then (some (a0_0, a0_1, (List.replicate 8 z60))) else (none)) = some (r1, r2, r3) := h
 clear h
 by_cases c2 : 8 ≤ 8796093022208
 rotate_left
 ·rw [if_neg c2] at H
  exact absurd H (by simp)
 rw [if_pos c2] at H
 have c2b0 := eq_true c2
 have c2b1 : decide (8 ≤ 8796093022208) = true := decide_eq_true c2
 clear c2
 obtain ⟨y245, hy245⟩ : ∃ y_ : List (S60), y_ = (List.replicate 8 z60) := ⟨_, rfl⟩
 replace H : (some (a0_0, a0_1, y245)) = some (r1, r2, r3) := by first | (rw [hy245]; with_reducible exact H) | (have H2_ := (Option.bind_some _ _).symm.trans H; rw [hy245]; with_reducible exact H2_) | (have H2_ := (Option.bind_some _ _).symm.trans H; with_reducible exact H2_) | with_reducible exact H | (rw [hy245]; exact H) | exact H
 have Ny245 := am hy245
 clear hy245
 simp only [Option.some.injEq, Prod.mk.injEq] at H
 obtain ⟨rfl, rfl, rfl⟩ := H
 go_enter Try.func22, Try.ntmps22
 try go_wp2_with (first | ((with_reducible refine gate_dst (N := 1) rfl ?_); refine be 1 #[.int .u64 a0_0, .int .u64 a0_1] 24 ?_; intro gb243 hg w3 hbox hb; have n0_ := am (below_step (pb HB) hb); have n1_ := am (hbox); have n2_ := am ((pg hg HB : w.heap.size ≤ gb243)); have n3_ := am ((pg hg HB : w.heap.size ≤ gb243)); clear HB; have HB := n0_; have BK243 := n1_; have GW243 := n2_; have GE243 := n3_; clear n0_ n1_ n2_ n3_; clear hb hbox hg) | ((with_reducible refine gate_dst (N := 2) rfl ?_); refine be 2 #[.int .u64 0, .int .u64 0, .slice none 0 0] 27 ?_; intro gb244 hg w4 hbox hb; have n0_ := am (blk_below (pk BK243.out) hb); have n1_ := am (below_step (pb HB) hb); have n2_ := am (hbox); have n3_ := am ((pg hg HB : w.heap.size ≤ gb244)); have n4_ := am ((pg hg HB : w.heap.size ≤ gb244)); have n5_ := am ((pl hg (pk BK243.out) : gb243 ≠ gb244)); have n6_ := am ((pl' hg (pk BK243.out) : gb244 ≠ gb243)); clear BK243; clear HB; have BK243 := n0_; have HB := n1_; have BK244 := n2_; have GW244 := n3_; have GE244 := n4_; have NB243_244 := n5_; have NB244_243 := n6_; clear n0_ n1_ n2_ n3_ n4_ n5_ n6_; clear hb hbox hg))
 replace BK243 := am (blk_drew BK243.out)
 replace BK244 := am (blk_drew BK244.out)
 replace HB := am (below_drew1 HB.out)
 refine start_ (n := 4) (S := fun w' => w'.cell? ⟨gb243, 0, none⟩ = some (.int .u64 a0_0) ∧ w'.cell? ⟨gb243, 1, none⟩ = some (.int .u64 a0_1)) (ds := []) #[false, false, false, false] (by kernel_rfl) rfl rfl ⟨ce BK243 0, ce BK243 1⟩ (fun hHeld => ?_)
 generalize w4.drew = w5 at BK243 BK244 HB hHeld ⊢
 refine take_ (i := 0) (N := some 3) (v := ?_) (a' := ?_) #[true, false, false, false] rfl rfl (by kernel_rfl) (fun _ _ _ h => h) (Or.inl ⟨by rfl, ?_⟩) hHeld ?_ ?_
 rotate_left
 ·rintro w' ⟨s0, s1⟩
  go_simp
  with_reducible rfl
 rotate_left
 ·simp only [Act.put, List.setIfInBounds_toArray, List.set_cons_zero, List.set_cons_succ, i64_w, i32_w]
  rfl
 refine one_ (i := 1) (N := some 4) #[true, true, false, false] rfl rfl (by kernel_rfl) (by decide) (fun K hK => ?_)
 refine Kd.R_make_step k60 _ 60 (by rfl) (N := 4) rfl 25 _ _ rfl 8 rfl rfl Try.underlying25 (.agg #[(.bool false), (.string ⟨#[]⟩), (.int .i64 0)]) 32 info60 rfl (by decide) (by omega) z60 (ok := fun _ => True) (okp := fun _ => True) (k60_mkM _ _ _ z60 ) (fun _ hk => hk) trivial (by omega) (by omega) (Below.refl _ _) (Nat.le_refl _) ?_
 intro v246 w6 ho7 hb hg_ hnew_
 clear hg_ hnew_
 (first | rw [← Ny245.out] at ho7 | (simp only [Int.reduceToNat] at ho7; rw [← Ny245.out] at ho7))
 have n0_ := am (Kd.R_lower ho7 (below_size (pb HB)))
 have n1_ := am (blk_below (pk BK243.out) hb)
 have n2_ := am (blk_below (pk BK244.out) hb)
 have n3_ := am (below_step (pb HB) hb)
 clear BK243 BK244 HB
 have HO247 := n0_
 have BK243 := n1_
 have BK244 := n2_
 have HB := n3_
 clear n0_ n1_ n2_ n3_ hb ho7
 obtain ⟨Ao8, co8, eo8⟩ := Kd.R_slice HO247.out
 (first | subst eo8 | (injection eo8 with f1_ f2_ f3_; have f4_ := f1_.symm; have f5_ := f3_.symm; clear f1_ f2_ f3_; subst f4_; subst f5_))
 refine hK.out _ _ ⟨ce BK243 0, ce BK243 1⟩ (fun hHeld => ?_)
 clear hK K
 refine nm ?_
 refine pure_ (i := 2) (N := some 5) (v := ?_) (a' := ?_) #[true, true, true, false] rfl rfl (by kernel_rfl) (fun _ _ _ h => h) (Or.inl ⟨by rfl, ?_⟩) ?_ ?_
 rotate_left
 ·intro w'
  go_simp
  with_reducible rfl
 rotate_left
 ·simp only [Act.put, List.setIfInBounds_toArray, List.set_cons_zero, List.set_cons_succ, i64_w, i32_w]
  rfl
 refine one_ (i := 3) (N := none) #[true, true, true, true] rfl rfl (by kernel_rfl) (by decide) (fun K hK => ?_)
 have hs9 : w6.cell? ⟨gb244, 0, none⟩ = some (.int .u64 0) := ce BK244 0
 have hfs9 := blk_frozen BK244.out 0
 have hns9_0 := NB243_244.out
 have hms9_0 := NB244_243.out
 have hs10 : w6.cell? ⟨gb244, 1, none⟩ = some (.int .u64 0) := ce BK244 1
 have hfs10 := blk_frozen BK244.out 1
 have hns10_0 := NB243_244.out
 have hms10_0 := NB244_243.out
 have hs11 : w6.cell? ⟨gb244, 2, none⟩ = some (.slice none 0 0) := ce BK244 2
 have hfs11 := blk_frozen BK244.out 2
 have hns11_0 := NB243_244.out
 have hms11_0 := NB244_243.out
 refine skip_ (w1 := ?_) (by rfl) rfl ?_ ?_
 rotate_left
 ·go_simp
  rfl
 refine hK.out _ _ ⟨((cell_far (p := ⟨gb244, _, none⟩) NB243_244.out _).trans (((cell_far (p := ⟨gb244, _, none⟩) NB243_244.out _).trans (((cell_far (p := ⟨gb244, _, none⟩) NB243_244.out _).trans (hHeld.1)))))), ((cell_far (p := ⟨gb244, _, none⟩) NB243_244.out _).trans (((cell_far (p := ⟨gb244, _, none⟩) NB243_244.out _).trans (((cell_far (p := ⟨gb244, _, none⟩) NB243_244.out _).trans (hHeld.2))))))⟩ (fun hHeld => ?_)
 clear hK K
 refine done_ (by kernel_rfl) ?_
 try go_wp2
 refine bodyPost_ret (results_cell_row rfl _ _ gb244 27 #[.int .u64 a0_0, .int .u64 a0_1, .slice Ao8 y245.length co8] (0, 0) _ rfl (by refine pk ?_; refine blk_put (cs := #[.int .u64 a0_0, .int .u64 a0_1, .slice none 0 0]) ?_ 2 _ rfl; refine pk ?_; refine blk_put (cs := #[.int .u64 a0_0, .int .u64 0, .slice none 0 0]) ?_ 1 _ rfl; refine pk ?_; refine blk_put (cs := #[.int .u64 0, .int .u64 0, .slice none 0 0]) ?_ 0 _ rfl; refine pk ?_; exact BK244.out) Try.underlying27 rfl (by kernel_rfl)) rfl ?_
 exact ⟨_, by first | rfl | (simp [errW_none, errW_some] <;> rfl) | (simp [*, errW_none, errW_some] <;> rfl), by refine pr ?_; exact Kd.R_mono (Kd.R_far (p := ⟨gb244, 2, none⟩) (Kd.R_far (p := ⟨gb244, 1, none⟩) (Kd.R_far (p := ⟨gb244, 0, none⟩) (Kd.R_types HO247.out BK244.out (by decide)) (fun _ hk => hk.2) (.int .u64 a0_0)) (fun _ hk => hk.2) (.int .u64 a0_1)) (fun _ hk => hk.2) (.slice Ao8 y245.length co8)) (fun _ hk => trivial), pb HB⟩
def l12_awake.l0 : Nat → List ByteArray → Int → Int → Int → Int → List (S60) → Option (Bool)
 | 0, _, _, _, _, _, _ => none
 | k + 1, x16, x17, x18, x254000, x254001, x254002 => if x18 < x17 then (if 0 ≤ x18 then (if x18 < (x16.length : Int) then ((index_Put.f k x254000 x254001 x254002 (rdOf ByteArray.empty x16 x18) x18).bind fun bt258 => (if bt258.2.2.2 = 0 then (l12_awake.l0 k x16 x17 (wrap64 (x18 + 1)) bt258.1 bt258.2.1 bt258.2.2.1) else (some false))) else (none)) else (none)) else ((index_Delete.f k x254000 x254001 x254002 (⟨#[98]⟩ : ByteArray)).bind fun bt265 => ((index_Get.f k bt265.1 bt265.2.1 bt265.2.2.1 (⟨#[101]⟩ : ByteArray)).bind fun bt272 => ((index_Get.f k bt265.1 bt265.2.1 bt265.2.2.1 (⟨#[98]⟩ : ByteArray)).bind fun bt274 => ((index_Delete.f k bt265.1 bt265.2.1 bt265.2.2.1 (⟨#[98]⟩ : ByteArray)).bind fun bt276 => (if (x254002.length : Int) = 16 then ((index_Many.f k x254000 x254001 x254002).bind fun t283 => (if t283 = 5 then (if bt265.2.2.2 = 0 then (if bt272.1 = 4 then (if bt272.2 = true then (if bt274.2 = true then (some false) else (if bt276.2.2.2 = 3 then ((index_Right.f k bt265.1 bt265.2.1 bt265.2.2.1).bind fun t284 => (some t284)) else (some false))) else (some false)) else (some false)) else (some false)) else (some false))) else (some false))))))
def l12_awake.f (k : Nat)  : Option (Bool) := (index_New.f 1 0).bind fun bt248 => ((some (([(⟨#[97]⟩ : ByteArray), (⟨#[98]⟩ : ByteArray), (⟨#[99]⟩ : ByteArray), (⟨#[100]⟩ : ByteArray), (⟨#[101]⟩ : ByteArray)] : List ByteArray) : List ByteArray)).bind fun y254 => (l12_awake.l0 k y254 (y254.length : Int) 0 bt248.1 bt248.2.1 bt248.2.2))
theorem l12_awake.mono_l : ∀ k, (∀ y0 y1 y2 y3 y4 y5, LeO (l12_awake.l0 k y0 y1 y2 y3 y4 y5) (l12_awake.l0 (k + 1) y0 y1 y2 y3 y4 y5))
 | 0 => fun _ _ _ _ _ _ r h => by simp [l12_awake.l0] at h
 | k + 1 => by
  have ih0 := l12_awake.mono_l k
  ·intro y0 y1 y2 y3 y4 y5
   unfold l12_awake.l0
   repeat' first
   | (with_reducible exact ih0 _ _ _ _ _ _)
   | (with_reducible exact index_Delete.mono _ _ _ _ _)
   | (with_reducible exact index_Get.mono _ _ _ _ _)
   | (with_reducible exact index_Many.mono _ _ _ _)
   | (with_reducible exact index_Put.mono _ _ _ _ _ _)
   | (with_reducible exact index_Right.mono _ _ _ _)
   | (with_reducible exact LeO.refl _)
   | (with_reducible exact LeO.none _)
   | (with_reducible refine LeO.ite ?_ ?_)
   | (with_reducible refine LeO.bind ?_ (fun _ => ?_))
theorem l12_awake.mono : ∀ k, LeO (l12_awake.f k ) (l12_awake.f (k + 1) ) := by
 intro  k
 have ih0 := l12_awake.mono_l k
 unfold l12_awake.f
 repeat' first
   | (with_reducible exact ih0 _ _ _ _ _ _)
   | (with_reducible exact index_Delete.mono _ _ _ _ _)
   | (with_reducible exact index_Get.mono _ _ _ _ _)
   | (with_reducible exact index_Many.mono _ _ _ _)
   | (with_reducible exact index_Put.mono _ _ _ _ _ _)
   | (with_reducible exact index_Right.mono _ _ _ _)
   | (with_reducible exact LeO.refl _)
   | (with_reducible exact LeO.none _)
   | (with_reducible refine LeO.ite ?_ ?_)
   | (with_reducible refine LeO.bind ?_ (fun _ => ?_))
set_option maxHeartbeats 8000000 in
set_option maxRecDepth 100000 in
theorem l12_awake.calls (k : Nat)  (r : Bool) (hrT : Aside0 (r = true)) (w : World) (h : l12_awake.f k  = some r) :
  Calls Try.prog 10 #[] w fun e w' => e = .returned (.bool r) ∧ Below w.heap.size w w' := by
 have hu24 := Try.underlying24
 have hu27 := Try.underlying27
 have HB := am (Below.refl w.heap.size w)
 have H : ((index_New.f 1 0).bind fun bt248 => ((some (([(⟨#[97]⟩ : ByteArray), (⟨#[98]⟩ : ByteArray), (⟨#[99]⟩ : ByteArray), (⟨#[100]⟩ : ByteArray), (⟨#[101]⟩ : ByteArray)] : List ByteArray) : List ByteArray)).bind fun y254 => (l12_awake.l0 k y254 (y254.length : Int) 0 bt248.1 bt248.2.1 bt248.2.2))) = some r := h
 clear h
 replace H := Option.bind_eq_some_iff.mp H
 obtain ⟨⟨t248, t249, t250⟩, A10, H⟩ := H
 replace H : ((some (([(⟨#[97]⟩ : ByteArray), (⟨#[98]⟩ : ByteArray), (⟨#[99]⟩ : ByteArray), (⟨#[100]⟩ : ByteArray), (⟨#[101]⟩ : ByteArray)] : List ByteArray) : List ByteArray)).bind fun y254 => (l12_awake.l0 k y254 (y254.length : Int) 0 t248 t249 t250)) = some r := H
 have A1 := am A10
 clear A10
 obtain ⟨y254, hy254⟩ : ∃ y_ : List ByteArray, y_ = (([(⟨#[97]⟩ : ByteArray), (⟨#[98]⟩ : ByteArray), (⟨#[99]⟩ : ByteArray), (⟨#[100]⟩ : ByteArray), (⟨#[101]⟩ : ByteArray)] : List ByteArray)) := ⟨_, rfl⟩
 replace H : (l12_awake.l0 k y254 (y254.length : Int) 0 t248 t249 t250) = some r := by first | (rw [hy254]; with_reducible exact H) | (have H2_ := (Option.bind_some _ _).symm.trans H; rw [hy254]; with_reducible exact H2_) | (have H2_ := (Option.bind_some _ _).symm.trans H; with_reducible exact H2_) | with_reducible exact H | (rw [hy254]; exact H) | exact H
 have Ny254 := am hy254
 clear hy254
 have H' := am H
 clear H
 go_enter Try.func10, Try.ntmps10
 go_wp2_with (first | ((with_reducible refine gate_callee (f := 22) rfl ?_); refine gl (some 15) Try.func22 #[.agg #[.int .u64 1, .int .u64 0]] ?_; (with_reducible refine (index_New.calls 1 0 t248 t249 t250 _ A1.out).mono ?_); rintro e w2 ⟨v251, rfl, ho0, hb⟩; refine ⟨_, rfl, ?_⟩; have HO252 := am (Kd.R_lower ho0 (below_size (pb HB))); replace HB := am (below_step (pb HB) hb); (try clear hb); (try clear hb2); (try clear hk); (try clear hi); (try clear ho0)) | ((with_reducible refine gate_dst (N := 1) rfl ?_); refine be 1 #[.int .u64 0, .int .u64 0, .slice none 0 0] 27 ?_; intro gb253 hg w3 hbox hb; have n0_ := am (Kd.R_below (pr HO252.out) hb); have n1_ := am (below_step (pb HB) hb); have n2_ := am (hbox); have n3_ := am ((pg hg HB : w.heap.size ≤ gb253)); have n4_ := am ((pg hg HB : w.heap.size ≤ gb253)); clear HO252; clear HB; have HO252 := n0_; have HB := n1_; have BK253 := n2_; have GW253 := n3_; have GE253 := n4_; clear n0_ n1_ n2_ n3_ n4_; clear hb hbox hg; have hcz4_0 := ce BK253 0; have hcz4_1 := ce BK253 1; have hcz4_2 := ce BK253 2; have hfz4_0 := fz BK253 0; have hfz4_1 := fz BK253 1; have hfz4_2 := fz BK253 2; obtain ⟨Ao5, co5, eo5⟩ := Kd.R_slice HO252.out; subst eo5) | ((with_reducible refine gate_dst (N := 16) rfl ?_); refine Kd.R_lit Kd.string _ 9 ?hg (N := 16) ?hd (xs := ([(⟨#[97]⟩ : ByteArray), (⟨#[98]⟩ : ByteArray), (⟨#[99]⟩ : ByteArray), (⟨#[100]⟩ : ByteArray), (⟨#[101]⟩ : ByteArray)] : List ByteArray)) (inner := [.string (⟨#[97]⟩ : ByteArray), .string (⟨#[98]⟩ : ByteArray), .string (⟨#[99]⟩ : ByteArray), .string (⟨#[100]⟩ : ByteArray), .string (⟨#[101]⟩ : ByteArray)]) (ok := fun _ => True) (okp := fun _ => True) ?hr ?hp (fun _ hk => hk) trivial (Below.refl _ _) (Nat.le_refl _) (by simp) ?_; (case hd => rfl); (case hg => rfl); (case hr => first | (go_simp; done) | (go_simp; rfl)); (case hp => exact (Reps.one (show Kd.M Kd.string _ _ _ (⟨#[97]⟩ : ByteArray) [.string (⟨#[97]⟩ : ByteArray)] from rfl) (Reps.one (show Kd.M Kd.string _ _ _ (⟨#[98]⟩ : ByteArray) [.string (⟨#[98]⟩ : ByteArray)] from rfl) (Reps.one (show Kd.M Kd.string _ _ _ (⟨#[99]⟩ : ByteArray) [.string (⟨#[99]⟩ : ByteArray)] from rfl) (Reps.one (show Kd.M Kd.string _ _ _ (⟨#[100]⟩ : ByteArray) [.string (⟨#[100]⟩ : ByteArray)] from rfl) (Reps.one (show Kd.M Kd.string _ _ _ (⟨#[101]⟩ : ByteArray) [.string (⟨#[101]⟩ : ByteArray)] from rfl) (Reps.none _ _))))))); intro v255 w6 ho7 hb hg_ hnew_; clear hg_ hnew_; (first | rw [← Ny254.out] at ho7 | (simp only [Int.reduceToNat] at ho7; rw [← Ny254.out] at ho7)); replace HO252 := am (Kd.R_below (pr ((Kd.R_mono (Kd.R_far (p := ⟨gb253, 2, none⟩) (Kd.R_far (p := ⟨gb253, 1, none⟩) (Kd.R_far (p := ⟨gb253, 0, none⟩) (Kd.R_types HO252.out BK253.out (by decide)) (fun _ hk => hk.2) (.int .u64 t248)) (fun _ hk => hk.2) (.int .u64 t249)) (fun _ hk => hk.2) (.slice Ao5 t250.length co5)) (fun _ h_ => h_.1)))) hb); have HO256 := am (Kd.R_lower ho7 (below_size (pb HB))); replace BK253 := am (blk_below (g := gb253) (o := .cells #[.int .u64 t248, .int .u64 t249, .slice Ao5 t250.length co5] 27 (0, 0)) (by refine pk ?_; refine blk_put (cs := #[.int .u64 t248, .int .u64 t249, .slice none 0 0]) ?_ 2 _ rfl; refine pk ?_; refine blk_put (cs := #[.int .u64 t248, .int .u64 0, .slice none 0 0]) ?_ 1 _ rfl; refine pk ?_; refine blk_put (cs := #[.int .u64 0, .int .u64 0, .slice none 0 0]) ?_ 0 _ rfl; refine pk ?_; exact BK253.out) hb); replace HB := am (below_step (pb HB) hb); clear hb ho7; obtain ⟨Ao8, co8, eo8⟩ := Kd.R_slice HO256.out; subst eo8))
 go_loopg [18] k (fun kq v18 w' => ∃ (x18_1 : Int) (x254000_1 : Int) (x254001_1 : Int) (x254002_1 : List (S60)) (u254002 : Value), v18 = .int .i64 x18_1 ∧ Aside0 (l12_awake.l0 kq y254 (y254.length : Int) x18_1 x254000_1 x254001_1 x254002_1 = some r) ∧ Aside0 (kq ≤ k) ∧ Aside0 (Kd.R Kd.string 9 w' w.heap.size (fun _ => True) (.slice Ao8 y254.length co8) y254) ∧ Aside0 (Kd.V k60 60 w' w.heap.size (fun k_ => some k_ ≠ ((.slice Ao8 y254.length co8) : Value).ownBlock ∧ k_ ≠ gb253) u254002 x254002_1) ∧ Aside0 (w'.heap[gb253]? = some (.cells #[.int .u64 x254000_1, .int .u64 x254001_1, u254002] 27 (0, 0))) ∧ Aside0 (Below w.heap.size w w'))
 case atStart => exact ⟨(0), (t248), (t249), (t250), (.slice Ao5 t250.length co5), (by first | rfl | (simp; done) | (simp [*]; done)), H', ⟨Nat.le_refl _⟩, ⟨pr HO256.out⟩, ⟨Kd.R_V (pr (Kd.R_mono (Kd.R_types (Kd.R_apart' HO252.out (Kd.R_typed HO256.out) (by decide)) BK253.out (by decide)) (fun _ hk => ⟨hk.1.2, hk.2⟩)))⟩, ⟨pk BK253.out⟩, ⟨pb HB⟩⟩
 case round =>
  clear H'
  try clear c1
  try clear c2
  try clear p2
  try clear hcz4_0 hcz4_1 hcz4_2 hfz4_0 hfz4_1 hfz4_2
  obtain ⟨x18_1, x254000_1, x254001_1, x254002_1, u254002, rfl, HA, HK1, HO_16, HO_254002, BK253, HB⟩ := hrel
  cases gk with
  | zero => exact absurd HA.out (by simp [l12_awake.l0])
  | succ k1 =>
   have H := HA.out
   clear HA
   simp only [l12_awake.l0] at H
   by_cases c9 : x18_1 < (y254.length : Int)
   ·rw [if_pos c9] at H
    have c9b0 : decide (x18_1 < (y254.length : Int)) = true := decide_eq_true c9
    clear c9
    by_cases c10 : 0 ≤ x18_1
    ·rw [if_pos c10] at H
     have c10b0 : decide (0 ≤ x18_1) = true := decide_eq_true c10
     clear c10
     by_cases c11 : x18_1 < (y254.length : Int)
     ·rw [if_pos c11] at H
      have c11b0 : decide (x18_1 < (y254.length : Int)) = true := decide_eq_true c11
      clear c11
      replace H := Option.bind_eq_some_iff.mp H
      obtain ⟨⟨t258, t259, t260, t263⟩, A120, H⟩ := H
      replace H : (if t263 = 0 then (l12_awake.l0 k1 y254 (y254.length : Int) (wrap64 (x18_1 + 1)) t258 t259 t260) else (some false)) = some r := H
      have A12 := am A120
      clear A120
      by_cases c13 : t263 = 0
      ·rw [if_pos c13] at H
       have c13b0 : (t263 == 0) = true := beq_iff_eq.mpr c13
       have c13b1 : (t263 != 0) = false := bne_eq_false_iff_eq.mpr c13
       clear c13
       have H' := am H
       clear H
       have p257 : 0 ≤ (x18_1 : Int) := of_decide_eq_true (by first | (with_reducible assumption) | assumption)
       have q257 : x18_1 < (y254.length : Int) := of_decide_eq_true (by first | (with_reducible assumption) | assumption)
       obtain ⟨ad257, e257, hx257_0⟩ := Kd.at_string (Kd.R_reads' HO_16.out).2.2 x18_1 p257 q257
       cases e257
       replace p257 := eq_true p257
       replace q257 := eq_true q257
       have hcz14_0 := ce BK253 0
       have hcz14_1 := ce BK253 1
       have hcz14_2 := ce BK253 2
       have hfz14_0 := fz BK253 0
       have hfz14_1 := fz BK253 1
       have hfz14_2 := fz BK253 2
       obtain ⟨Ao15, co15, eo15⟩ := Kd.V_slice HO_254002.out
       subst eo15
       go_wp2_with (first | ((with_reducible refine gate_callee (f := 13) rfl ?_); refine gl (some 27) Try.func13 #[.agg #[.int .u64 x254000_1, .int .u64 x254001_1, .slice Ao15 x254002_1.length co15], .string (rdOf ByteArray.empty y254 x18_1), .int .i64 x18_1] ?_; (with_reducible refine (index_Put.calls k1 x254000_1 x254001_1 (fun k_ => (some k_ ≠ (.slice (some ad257) y254.length co8 : Value).ownBlock ∧ k_ ≠ gb253)) _ _ x254002_1 (rdOf ByteArray.empty y254 x18_1) x18_1 t258 t259 t260 t263 _ ?side1 A12.out).mono ?_); (case side1 => exact HO_254002.out); rintro e w16 ⟨v261, rfl, ho0, hb⟩; refine ⟨_, rfl, ?_⟩; have n0_ := am (Kd.R_below (pr HO_16.out) hb); have n1_ := am (Kd.V_below (pv HO_254002.out) hb); have n2_ := am (Kd.V_lower (Kd.V_mono (ok' := fun k_ => some k_ ≠ (.slice (some ad257) y254.length co8 : Value).ownBlock ∧ k_ ≠ gb253) ho0 (fun k_ hk_ => ⟨Or.elim hk_ (fun hs_ => hs_.1) (fun hn_ => (Kd.fresh' (Kd.R_lt (pr HO_16.out)) k_ hn_)), Or.elim hk_ (fun hs_ => hs_.2) (fun hn_ => (Kd.freshB (g := gb253) (o := .cells #[.int .u64 x254000_1, .int .u64 x254001_1, .slice Ao15 x254002_1.length co15] 27 (0, 0)) (pk BK253.out) k_ hn_))⟩)) (below_size (pb HB))); have n3_ := am (blk_below (pk BK253.out) hb); have n4_ := am (below_step (pb HB) hb); clear HO_16; clear HO_254002; clear BK253; clear HB; have HO_16 := n0_; have HO_254002 := n1_; have HO262 := n2_; have BK253 := n3_; have HB := n4_; clear n0_ n1_ n2_ n3_ n4_; (try clear hb); (try clear hb2); (try clear hk); (try clear hi); (try clear ho0)) | ((with_reducible refine gate_dst (N := 4) rfl ?_); refine be 4 #[.int .u64 0, .int .u64 0, .slice none 0 0] 27 ?_; intro gb264 hg w17 hbox hb; have n0_ := am (Kd.R_below (pr HO_16.out) hb); have n1_ := am (Kd.V_below (Kd.V_elderB (pv HO_254002.out) gb264 (Nat.le_of_eq hg.symm)) hb); have n2_ := am (Kd.V_below (Kd.V_elderB (pv HO262.out) gb264 (Nat.le_of_eq hg.symm)) hb); have n3_ := am (blk_below (pk BK253.out) hb); have n4_ := am (below_step (pb HB) hb); have n5_ := am (hbox); have n6_ := am ((pg hg HB : w.heap.size ≤ gb264)); have n7_ := am ((pg hg HB : w.heap.size ≤ gb264)); have n8_ := am ((pl hg (pk BK253.out) : gb253 ≠ gb264)); have n9_ := am ((pl' hg (pk BK253.out) : gb264 ≠ gb253)); clear HO_16; clear HO_254002; clear HO262; clear BK253; clear HB; have HO_16 := n0_; have HO_254002 := n1_; have HO262 := n2_; have BK253 := n3_; have HB := n4_; have BK264 := n5_; have GW264 := n6_; have GE264 := n7_; have NB253_264 := n8_; have NB264_253 := n9_; clear n0_ n1_ n2_ n3_ n4_ n5_ n6_ n7_ n8_ n9_; clear hb hbox hg; have hnb18 := NB264_253.out; have hnc18 := NB253_264.out; have hcz19_0 := ce BK264 0; have hcz19_1 := ce BK264 1; have hcz19_2 := ce BK264 2; have hfz19_0 := fz BK264 0; have hfz19_1 := fz BK264 1; have hfz19_2 := fz BK264 2; obtain ⟨Ao20, co20, eo20⟩ := Kd.V_slice HO262.out; subst eo20; have hcz21_0 := ce BK253 0; have hcz21_1 := ce BK253 1; have hcz21_2 := ce BK253 2; have hfz21_0 := fz BK253 0; have hfz21_1 := fz BK253 1; have hfz21_2 := fz BK253 2))
       go_roundg k1
       case measure => have := HK1.out; omega
       case rel => exact ⟨(wrap64 (x18_1 + 1)), (t258), (t259), (t260), (.slice Ao20 t260.length co20), (by first | rfl | (simp; done) | (simp [*]; done)), H', ⟨by have := HK1.out; omega⟩, ⟨by refine pr ?_; exact Kd.R_mono (Kd.R_far (p := ⟨gb253, 2, none⟩) (Kd.R_far (p := ⟨gb253, 1, none⟩) (Kd.R_far (p := ⟨gb253, 0, none⟩) (Kd.R_far (p := ⟨gb264, 2, none⟩) (Kd.R_far (p := ⟨gb264, 1, none⟩) (Kd.R_far (p := ⟨gb264, 0, none⟩) (Kd.R_types (Kd.R_types HO_16.out BK264.out (by decide)) BK253.out (by decide)) (fun _ hk => hk.1.2) (.int .u64 t258)) (fun _ hk => hk.1.2) (.int .u64 t259)) (fun _ hk => hk.1.2) (.slice Ao20 t260.length co20)) (fun _ hk => hk.2) (.int .u64 t258)) (fun _ hk => hk.2) (.int .u64 t259)) (fun _ hk => hk.2) (.slice Ao20 t260.length co20)) (fun _ hk => trivial)⟩, ⟨by refine pv ?_; exact Kd.V_mono (Kd.V_far (p := ⟨gb253, 2, none⟩) (Kd.V_far (p := ⟨gb253, 1, none⟩) (Kd.V_far (p := ⟨gb253, 0, none⟩) (Kd.V_far (p := ⟨gb264, 2, none⟩) (Kd.V_far (p := ⟨gb264, 1, none⟩) (Kd.V_far (p := ⟨gb264, 0, none⟩) (Kd.V_mono (Kd.V_mono HO262.out (fun k_ hk => (⟨hk, hk.2⟩ : _ ∧ k_ ≠ gb264))) (fun k_ hk => (⟨hk, hk.1.1.2⟩ : _ ∧ k_ ≠ gb253))) (fun _ hk => hk.1.2) (.int .u64 t258)) (fun _ hk => hk.1.2) (.int .u64 t259)) (fun _ hk => hk.1.2) (.slice Ao20 t260.length co20)) (fun _ hk => hk.2) (.int .u64 t258)) (fun _ hk => hk.2) (.int .u64 t259)) (fun _ hk => hk.2) (.slice Ao20 t260.length co20)) (fun _ hk => ⟨hk.1.1.1.1, hk.1.1.1.2⟩)⟩, ⟨by refine pk ?_; refine blk_put (cs := #[.int .u64 t258, .int .u64 t259, .slice Ao15 x254002_1.length co15]) ?_ 2 _ rfl; refine pk ?_; refine blk_put (cs := #[.int .u64 t258, .int .u64 x254001_1, .slice Ao15 x254002_1.length co15]) ?_ 1 _ rfl; refine pk ?_; refine blk_put (cs := #[.int .u64 x254000_1, .int .u64 x254001_1, .slice Ao15 x254002_1.length co15]) ?_ 0 _ rfl; refine pk ?_; refine blk_far ?_ NB253_264.out _; refine pk ?_; refine blk_far ?_ NB253_264.out _; refine pk ?_; refine blk_far ?_ NB253_264.out _; refine pk ?_; exact BK253.out⟩, ⟨pb HB⟩⟩
      ·rw [if_neg c13] at H
       exact Bool.noConfusion ((Option.some.inj H).trans hrT.out)
     ·rw [if_neg c11] at H
      exact absurd H (by simp)
    ·rw [if_neg c10] at H
     exact absurd H (by simp)
   ·rw [if_neg c9] at H
    have c9b0 : decide (x18_1 < (y254.length : Int)) = false := decide_eq_false c9
    clear c9
    replace H := Option.bind_eq_some_iff.mp H
    obtain ⟨⟨t265, t266, t267, t270⟩, A290, H⟩ := H
    replace H : ((index_Get.f k1 t265 t266 t267 (⟨#[101]⟩ : ByteArray)).bind fun bt272 => ((index_Get.f k1 t265 t266 t267 (⟨#[98]⟩ : ByteArray)).bind fun bt274 => ((index_Delete.f k1 t265 t266 t267 (⟨#[98]⟩ : ByteArray)).bind fun bt276 => (if (x254002_1.length : Int) = 16 then ((index_Many.f k1 x254000_1 x254001_1 x254002_1).bind fun t283 => (if t283 = 5 then (if t270 = 0 then (if bt272.1 = 4 then (if bt272.2 = true then (if bt274.2 = true then (some false) else (if bt276.2.2.2 = 3 then ((index_Right.f k1 t265 t266 t267).bind fun t284 => (some t284)) else (some false))) else (some false)) else (some false)) else (some false)) else (some false))) else (some false))))) = some r := H
    have A29 := am A290
    clear A290
    replace H := Option.bind_eq_some_iff.mp H
    obtain ⟨⟨t272, t273⟩, A300, H⟩ := H
    replace H : ((index_Get.f k1 t265 t266 t267 (⟨#[98]⟩ : ByteArray)).bind fun bt274 => ((index_Delete.f k1 t265 t266 t267 (⟨#[98]⟩ : ByteArray)).bind fun bt276 => (if (x254002_1.length : Int) = 16 then ((index_Many.f k1 x254000_1 x254001_1 x254002_1).bind fun t283 => (if t283 = 5 then (if t270 = 0 then (if t272 = 4 then (if t273 = true then (if bt274.2 = true then (some false) else (if bt276.2.2.2 = 3 then ((index_Right.f k1 t265 t266 t267).bind fun t284 => (some t284)) else (some false))) else (some false)) else (some false)) else (some false)) else (some false))) else (some false)))) = some r := H
    have A30 := am A300
    clear A300
    replace H := Option.bind_eq_some_iff.mp H
    obtain ⟨⟨t274, t275⟩, A310, H⟩ := H
    replace H : ((index_Delete.f k1 t265 t266 t267 (⟨#[98]⟩ : ByteArray)).bind fun bt276 => (if (x254002_1.length : Int) = 16 then ((index_Many.f k1 x254000_1 x254001_1 x254002_1).bind fun t283 => (if t283 = 5 then (if t270 = 0 then (if t272 = 4 then (if t273 = true then (if t275 = true then (some false) else (if bt276.2.2.2 = 3 then ((index_Right.f k1 t265 t266 t267).bind fun t284 => (some t284)) else (some false))) else (some false)) else (some false)) else (some false)) else (some false))) else (some false))) = some r := H
    have A31 := am A310
    clear A310
    replace H := Option.bind_eq_some_iff.mp H
    obtain ⟨⟨t276, t277, t278, t281⟩, A320, H⟩ := H
    replace H : (if (x254002_1.length : Int) = 16 then ((index_Many.f k1 x254000_1 x254001_1 x254002_1).bind fun t283 => (if t283 = 5 then (if t270 = 0 then (if t272 = 4 then (if t273 = true then (if t275 = true then (some false) else (if t281 = 3 then ((index_Right.f k1 t265 t266 t267).bind fun t284 => (some t284)) else (some false))) else (some false)) else (some false)) else (some false)) else (some false))) else (some false)) = some r := H
    have A32 := am A320
    clear A320
    by_cases c33 : (x254002_1.length : Int) = 16
    ·rw [if_pos c33] at H
     have c33b0 : ((x254002_1.length : Int) == 16) = true := beq_iff_eq.mpr c33
     have c33b1 : ((x254002_1.length : Int) != 16) = false := bne_eq_false_iff_eq.mpr c33
     clear c33
     replace H := Option.bind_eq_some_iff.mp H
     obtain ⟨t283, A340, H⟩ := H
     replace H : (if t283 = 5 then (if t270 = 0 then (if t272 = 4 then (if t273 = true then (if t275 = true then (some false) else (if t281 = 3 then ((index_Right.f k1 t265 t266 t267).bind fun t284 => (some t284)) else (some false))) else (some false)) else (some false)) else (some false)) else (some false)) = some r := H
     have A34 := am A340
     clear A340
     by_cases c35 : t283 = 5
     ·rw [if_pos c35] at H
      have c35b0 : (t283 == 5) = true := beq_iff_eq.mpr c35
      have c35b1 : (t283 != 5) = false := bne_eq_false_iff_eq.mpr c35
      clear c35
      by_cases c36 : t270 = 0
      ·rw [if_pos c36] at H
       have c36b0 : (t270 == 0) = true := beq_iff_eq.mpr c36
       have c36b1 : (t270 != 0) = false := bne_eq_false_iff_eq.mpr c36
       clear c36
       by_cases c37 : t272 = 4
       ·rw [if_pos c37] at H
        have c37b0 : (t272 == 4) = true := beq_iff_eq.mpr c37
        have c37b1 : (t272 != 4) = false := bne_eq_false_iff_eq.mpr c37
        clear c37
        by_cases c38 : t273 = true
        ·subst c38
         have H1 : (if t275 = true then (some false) else (if t281 = 3 then ((index_Right.f k1 t265 t266 t267).bind fun t284 => (some t284)) else (some false))) = some r := by rw [if_pos rfl] at H; exact H
         clear H
         have H := H1
         clear H1
         by_cases c39 : t275 = true
         ·subst c39
          have H1 : (some false) = some r := by rw [if_pos rfl] at H; exact H
          exact Bool.noConfusion ((Option.some.inj H1).trans hrT.out)
         ·replace c39 := Bool.eq_false_iff.mpr c39
          subst c39
          have H1 : (if t281 = 3 then ((index_Right.f k1 t265 t266 t267).bind fun t284 => (some t284)) else (some false)) = some r := by rw [if_neg (show ¬ (false = true) by decide)] at H; exact H
          clear H
          have H := H1
          clear H1
          by_cases c59 : t281 = 3
          ·rw [if_pos c59] at H
           have c59b0 : (t281 == 3) = true := beq_iff_eq.mpr c59
           have c59b1 : (t281 != 3) = false := bne_eq_false_iff_eq.mpr c59
           clear c59
           replace H := Option.bind_eq_some_iff.mp H
           obtain ⟨t284, A600, H⟩ := H
           replace H : (some t284) = some r := H
           have A60 := am A600
           clear A600
           obtain rfl := Option.some.inj H
           have hcz61_0 := ce BK253 0
           have hcz61_1 := ce BK253 1
           have hcz61_2 := ce BK253 2
           have hfz61_0 := fz BK253 0
           have hfz61_1 := fz BK253 1
           have hfz61_2 := fz BK253 2
           obtain ⟨Ao62, co62, eo62⟩ := Kd.V_slice HO_254002.out
           subst eo62
           go_wp2_with (first | ((with_reducible refine gate_callee (f := 14) rfl ?_); refine gl (some 36) Try.func14 #[.agg #[.int .u64 x254000_1, .int .u64 x254001_1, .slice Ao62 x254002_1.length co62], .string (⟨#[98]⟩ : ByteArray)] ?_; (with_reducible refine (index_Delete.calls k1 x254000_1 x254001_1 (fun k_ => (some k_ ≠ (.slice Ao8 y254.length co8 : Value).ownBlock ∧ k_ ≠ gb253)) _ _ x254002_1 (⟨#[98]⟩ : ByteArray) t265 t266 t267 t270 _ ?side1 A29.out).mono ?_); (case side1 => exact HO_254002.out); rintro e w63 ⟨v268, rfl, ho0, hb⟩; refine ⟨_, rfl, ?_⟩; have n0_ := am (Kd.R_below (pr HO_16.out) hb); have n1_ := am (Kd.V_below (pv HO_254002.out) hb); have n2_ := am (Kd.V_lower (Kd.V_mono (ok' := fun k_ => some k_ ≠ (.slice Ao8 y254.length co8 : Value).ownBlock ∧ k_ ≠ gb253) ho0 (fun k_ hk_ => ⟨Or.elim hk_ (fun hs_ => hs_.1) (fun hn_ => (Kd.fresh' (Kd.R_lt (pr HO_16.out)) k_ hn_)), Or.elim hk_ (fun hs_ => hs_.2) (fun hn_ => (Kd.freshB (g := gb253) (o := .cells #[.int .u64 x254000_1, .int .u64 x254001_1, .slice Ao62 x254002_1.length co62] 27 (0, 0)) (pk BK253.out) k_ hn_))⟩)) (below_size (pb HB))); have n3_ := am (blk_below (pk BK253.out) hb); have n4_ := am (below_step (pb HB) hb); clear HO_16; clear HO_254002; clear BK253; clear HB; have HO_16 := n0_; have HO_254002 := n1_; have HO269 := n2_; have BK253 := n3_; have HB := n4_; clear n0_ n1_ n2_ n3_ n4_; (try clear hb); (try clear hb2); (try clear hk); (try clear hi); (try clear ho0)) | ((with_reducible refine gate_dst (N := 6) rfl ?_); refine be 6 #[.int .u64 0, .int .u64 0, .slice none 0 0] 27 ?_; intro gb271 hg w64 hbox hb; have n0_ := am (Kd.R_below (pr HO_16.out) hb); have n1_ := am (Kd.V_below (Kd.V_elderB (pv HO_254002.out) gb271 (Nat.le_of_eq hg.symm)) hb); have n2_ := am (Kd.V_below (Kd.V_elderB (pv HO269.out) gb271 (Nat.le_of_eq hg.symm)) hb); have n3_ := am (blk_below (pk BK253.out) hb); have n4_ := am (below_step (pb HB) hb); have n5_ := am (hbox); have n6_ := am ((pg hg HB : w.heap.size ≤ gb271)); have n7_ := am ((pg hg HB : w.heap.size ≤ gb271)); have n8_ := am ((pl hg (pk BK253.out) : gb253 ≠ gb271)); have n9_ := am ((pl' hg (pk BK253.out) : gb271 ≠ gb253)); clear HO_16; clear HO_254002; clear HO269; clear BK253; clear HB; have HO_16 := n0_; have HO_254002 := n1_; have HO269 := n2_; have BK253 := n3_; have HB := n4_; have BK271 := n5_; have GW271 := n6_; have GE271 := n7_; have NB253_271 := n8_; have NB271_253 := n9_; clear n0_ n1_ n2_ n3_ n4_ n5_ n6_ n7_ n8_ n9_; clear hb hbox hg; have hnb65 := NB271_253.out; have hnc65 := NB253_271.out; have hcz66_0 := ce BK271 0; have hcz66_1 := ce BK271 1; have hcz66_2 := ce BK271 2; have hfz66_0 := fz BK271 0; have hfz66_1 := fz BK271 1; have hfz66_2 := fz BK271 2; obtain ⟨Ao67, co67, eo67⟩ := Kd.V_slice HO269.out; subst eo67) | ((with_reducible refine gate_callee (f := 12) rfl ?_); refine gl (some 41) Try.func12 #[.agg #[.int .u64 t265, .int .u64 t266, .slice Ao67 t267.length co67], .string (⟨#[101]⟩ : ByteArray)] ?_; (with_reducible refine (index_Get.calls k1 t265 t266 _ _ t267 (⟨#[101]⟩ : ByteArray) t272 true _ ?side1 ?side2 A30.out).mono ?_); (case side1 => refine (Kd.V_reads' (e := 60) (base := w.heap.size) (ok := fun k_ => ((some k_ ≠ (.slice Ao8 y254.length co8 : Value).ownBlock ∧ k_ ≠ gb253) ∧ k_ ≠ gb271)) (n := t267.length) (c := co67) ?_).2.2; exact (pv ((Kd.V_mono (Kd.V_far (p := ⟨gb271, 2, none⟩) (Kd.V_far (p := ⟨gb271, 1, none⟩) (Kd.V_far (p := ⟨gb271, 0, none⟩) (Kd.V_mono HO269.out (fun k_ hk => (⟨hk, hk.2⟩ : _ ∧ k_ ≠ gb271))) (fun _ hk => hk.2) (.int .u64 t265)) (fun _ hk => hk.2) (.int .u64 t266)) (fun _ hk => hk.2) (.slice Ao67 t267.length co67)) (fun _ h_ => h_.1))))); (case side2 => exact (Kd.V_reads' HO269.out).2.1); rintro e w68 ⟨rfl, hb⟩; refine ⟨_, rfl, ?_⟩; replace HO_16 := am (Kd.R_below (pr ((Kd.R_mono (Kd.R_far (p := ⟨gb271, 2, none⟩) (Kd.R_far (p := ⟨gb271, 1, none⟩) (Kd.R_far (p := ⟨gb271, 0, none⟩) (Kd.R_types HO_16.out BK271.out (by decide)) (fun _ hk => hk.2) (.int .u64 t265)) (fun _ hk => hk.2) (.int .u64 t266)) (fun _ hk => hk.2) (.slice Ao67 t267.length co67)) (fun _ h_ => h_.1)))) hb); replace HO_254002 := am (Kd.V_below (pv ((Kd.V_mono (Kd.V_far (p := ⟨gb271, 2, none⟩) (Kd.V_far (p := ⟨gb271, 1, none⟩) (Kd.V_far (p := ⟨gb271, 0, none⟩) (Kd.V_mono HO_254002.out (fun k_ hk => (⟨hk, hk.2⟩ : _ ∧ k_ ≠ gb271))) (fun _ hk => hk.2) (.int .u64 t265)) (fun _ hk => hk.2) (.int .u64 t266)) (fun _ hk => hk.2) (.slice Ao67 t267.length co67)) (fun _ h_ => h_.1)))) hb); replace HO269 := am (Kd.V_below (pv ((Kd.V_mono (Kd.V_far (p := ⟨gb271, 2, none⟩) (Kd.V_far (p := ⟨gb271, 1, none⟩) (Kd.V_far (p := ⟨gb271, 0, none⟩) (Kd.V_mono HO269.out (fun k_ hk => (⟨hk, hk.2⟩ : _ ∧ k_ ≠ gb271))) (fun _ hk => hk.2) (.int .u64 t265)) (fun _ hk => hk.2) (.int .u64 t266)) (fun _ hk => hk.2) (.slice Ao67 t267.length co67)) (fun _ h_ => h_.1)))) hb); replace BK253 := am (blk_below (g := gb253) (o := .cells #[.int .u64 x254000_1, .int .u64 x254001_1, .slice Ao62 x254002_1.length co62] 27 (0, 0)) (by refine pk ?_; refine blk_far ?_ NB253_271.out _; refine pk ?_; refine blk_far ?_ NB253_271.out _; refine pk ?_; refine blk_far ?_ NB253_271.out _; refine pk ?_; exact BK253.out) hb); replace BK271 := am (blk_below (g := gb271) (o := .cells #[.int .u64 t265, .int .u64 t266, .slice Ao67 t267.length co67] 27 (0, 0)) (by refine pk ?_; refine blk_put (cs := #[.int .u64 t265, .int .u64 t266, .slice none 0 0]) ?_ 2 _ rfl; refine pk ?_; refine blk_put (cs := #[.int .u64 t265, .int .u64 0, .slice none 0 0]) ?_ 1 _ rfl; refine pk ?_; refine blk_put (cs := #[.int .u64 0, .int .u64 0, .slice none 0 0]) ?_ 0 _ rfl; refine pk ?_; exact BK271.out) hb); replace HB := am (below_step (pb HB) hb); (try clear hb); (try clear hb2); (try clear hk); (try clear hi); have hcz69_0 := ce BK271 0; have hcz69_1 := ce BK271 1; have hcz69_2 := ce BK271 2; have hfz69_0 := fz BK271 0; have hfz69_1 := fz BK271 1; have hfz69_2 := fz BK271 2) | ((with_reducible refine gate_callee (f := 12) rfl ?_); refine gl (some 46) Try.func12 #[.agg #[.int .u64 t265, .int .u64 t266, .slice Ao67 t267.length co67], .string (⟨#[98]⟩ : ByteArray)] ?_; (with_reducible refine (index_Get.calls k1 t265 t266 _ _ t267 (⟨#[98]⟩ : ByteArray) t274 false _ ?side1 ?side2 A31.out).mono ?_); (case side1 => repeat (first | exact (Kd.V_reads' HO269.out).2.2 | (with_reducible refine Kd.C_alloc ?_ _) | (with_reducible refine Kd.C_drewN ?_ _) | (with_reducible refine Kd.C_drew ?_))); (case side2 => exact (Kd.V_reads' HO269.out).2.1); rintro e w70 ⟨rfl, hb⟩; refine ⟨_, rfl, ?_⟩; replace HO_16 := am (Kd.R_below (pr HO_16.out) hb); replace HO_254002 := am (Kd.V_below (pv HO_254002.out) hb); replace HO269 := am (Kd.V_below (pv HO269.out) hb); replace BK253 := am (blk_below (pk BK253.out) hb); replace BK271 := am (blk_below (pk BK271.out) hb); replace HB := am (below_step (pb HB) hb); (try clear hb); (try clear hb2); (try clear hk); (try clear hi); have hcz71_0 := ce BK271 0; have hcz71_1 := ce BK271 1; have hcz71_2 := ce BK271 2; have hfz71_0 := fz BK271 0; have hfz71_1 := fz BK271 1; have hfz71_2 := fz BK271 2) | ((with_reducible refine gate_callee (f := 14) rfl ?_); refine gl (some 51) Try.func14 #[.agg #[.int .u64 t265, .int .u64 t266, .slice Ao67 t267.length co67], .string (⟨#[98]⟩ : ByteArray)] ?_; (with_reducible refine (index_Delete.calls k1 t265 t266 (fun k_ => ((some k_ ≠ (.slice Ao8 y254.length co8 : Value).ownBlock ∧ k_ ≠ gb253) ∧ k_ ≠ gb271)) _ _ t267 (⟨#[98]⟩ : ByteArray) t276 t277 t278 t281 _ ?side1 A32.out).mono ?_); (case side1 => exact HO269.out); rintro e w72 ⟨v279, rfl, ho0, hb⟩; refine ⟨_, rfl, ?_⟩; have n0_ := am (Kd.R_below (pr HO_16.out) hb); have n1_ := am (Kd.V_below (pv HO_254002.out) hb); have n2_ := am (Kd.V_below (pv HO269.out) hb); have n3_ := am (Kd.V_lower (Kd.V_mono (ok' := fun k_ => some k_ ≠ (.slice Ao8 y254.length co8 : Value).ownBlock ∧ k_ ≠ gb253 ∧ k_ ≠ gb271) ho0 (fun k_ hk_ => ⟨Or.elim hk_ (fun hs_ => hs_.1.1) (fun hn_ => (Kd.fresh' (Kd.R_lt (pr HO_16.out)) k_ hn_)), Or.elim hk_ (fun hs_ => hs_.1.2) (fun hn_ => (Kd.freshB (g := gb253) (o := .cells #[.int .u64 x254000_1, .int .u64 x254001_1, .slice Ao62 x254002_1.length co62] 27 (0, 0)) (pk BK253.out) k_ hn_)), Or.elim hk_ (fun hs_ => hs_.2) (fun hn_ => (Kd.freshB (g := gb271) (o := .cells #[.int .u64 t265, .int .u64 t266, .slice Ao67 t267.length co67] 27 (0, 0)) (pk BK271.out) k_ hn_))⟩)) (below_size (pb HB))); have n4_ := am (blk_below (pk BK253.out) hb); have n5_ := am (blk_below (pk BK271.out) hb); have n6_ := am (below_step (pb HB) hb); clear HO_16; clear HO_254002; clear HO269; clear BK253; clear BK271; clear HB; have HO_16 := n0_; have HO_254002 := n1_; have HO269 := n2_; have HO280 := n3_; have BK253 := n4_; have BK271 := n5_; have HB := n6_; clear n0_ n1_ n2_ n3_ n4_ n5_ n6_; (try clear hb); (try clear hb2); (try clear hk); (try clear hi); (try clear ho0)) | ((with_reducible refine gate_dst (N := 12) rfl ?_); refine be 12 #[.int .u64 0, .int .u64 0, .slice none 0 0] 27 ?_; intro gb282 hg w73 hbox hb; have n0_ := am (Kd.R_below (pr HO_16.out) hb); have n1_ := am (Kd.V_below (Kd.V_elderB (pv HO_254002.out) gb282 (Nat.le_of_eq hg.symm)) hb); have n2_ := am (Kd.V_below (Kd.V_elderB (pv HO269.out) gb282 (Nat.le_of_eq hg.symm)) hb); have n3_ := am (Kd.V_below (Kd.V_elderB (pv HO280.out) gb282 (Nat.le_of_eq hg.symm)) hb); have n4_ := am (blk_below (pk BK253.out) hb); have n5_ := am (blk_below (pk BK271.out) hb); have n6_ := am (below_step (pb HB) hb); have n7_ := am (hbox); have n8_ := am ((pg hg HB : w.heap.size ≤ gb282)); have n9_ := am ((pg hg HB : w.heap.size ≤ gb282)); have n10_ := am ((pl hg (pk BK253.out) : gb253 ≠ gb282)); have n11_ := am ((pl' hg (pk BK253.out) : gb282 ≠ gb253)); have n12_ := am ((pl hg (pk BK271.out) : gb271 ≠ gb282)); have n13_ := am ((pl' hg (pk BK271.out) : gb282 ≠ gb271)); clear HO_16; clear HO_254002; clear HO269; clear HO280; clear BK253; clear BK271; clear HB; have HO_16 := n0_; have HO_254002 := n1_; have HO269 := n2_; have HO280 := n3_; have BK253 := n4_; have BK271 := n5_; have HB := n6_; have BK282 := n7_; have GW282 := n8_; have GE282 := n9_; have NB253_282 := n10_; have NB282_253 := n11_; have NB271_282 := n12_; have NB282_271 := n13_; clear n0_ n1_ n2_ n3_ n4_ n5_ n6_ n7_ n8_ n9_ n10_ n11_ n12_ n13_; clear hb hbox hg; have hnb74 := NB282_253.out; have hnc74 := NB253_282.out; have hnb75 := NB282_271.out; have hnc75 := NB271_282.out; have hcz76_0 := ce BK282 0; have hcz76_1 := ce BK282 1; have hcz76_2 := ce BK282 2; have hfz76_0 := fz BK282 0; have hfz76_1 := fz BK282 1; have hfz76_2 := fz BK282 2; obtain ⟨Ao77, co77, eo77⟩ := Kd.V_slice HO280.out; subst eo77; have hcz78_0 := ce BK253 0; have hcz78_1 := ce BK253 1; have hcz78_2 := ce BK253 2; have hfz78_0 := fz BK253 0; have hfz78_1 := fz BK253 1; have hfz78_2 := fz BK253 2) | (go_at_call 16; (with_reducible refine (index_Many.calls k1 x254000_1 x254001_1 _ _ x254002_1 t283 _ ?side1 ?side2 A34.out).mono ?_); (case side1 => refine (Kd.V_reads' (e := 60) (base := w.heap.size) (ok := fun k_ => (((some k_ ≠ (.slice Ao8 y254.length co8 : Value).ownBlock ∧ k_ ≠ gb253) ∧ k_ ≠ gb271) ∧ k_ ≠ gb282)) (n := x254002_1.length) (c := co62) ?_).2.2; exact (pv ((Kd.V_mono (Kd.V_far (p := ⟨gb282, 2, none⟩) (Kd.V_far (p := ⟨gb282, 1, none⟩) (Kd.V_far (p := ⟨gb282, 0, none⟩) (Kd.V_mono HO_254002.out (fun k_ hk => (⟨hk, hk.2⟩ : _ ∧ k_ ≠ gb282))) (fun _ hk => hk.2) (.int .u64 t276)) (fun _ hk => hk.2) (.int .u64 t277)) (fun _ hk => hk.2) (.slice Ao77 t278.length co77)) (fun _ h_ => h_.1))))); (case side2 => exact (Kd.V_reads' HO_254002.out).2.1); rintro e w79 ⟨rfl, hb⟩; replace HO_16 := am (Kd.R_below (pr ((Kd.R_mono (Kd.R_far (p := ⟨gb282, 2, none⟩) (Kd.R_far (p := ⟨gb282, 1, none⟩) (Kd.R_far (p := ⟨gb282, 0, none⟩) (Kd.R_types HO_16.out BK282.out (by decide)) (fun _ hk => hk.2) (.int .u64 t276)) (fun _ hk => hk.2) (.int .u64 t277)) (fun _ hk => hk.2) (.slice Ao77 t278.length co77)) (fun _ h_ => h_.1)))) hb); replace HO_254002 := am (Kd.V_below (pv ((Kd.V_mono (Kd.V_far (p := ⟨gb282, 2, none⟩) (Kd.V_far (p := ⟨gb282, 1, none⟩) (Kd.V_far (p := ⟨gb282, 0, none⟩) (Kd.V_mono HO_254002.out (fun k_ hk => (⟨hk, hk.2⟩ : _ ∧ k_ ≠ gb282))) (fun _ hk => hk.2) (.int .u64 t276)) (fun _ hk => hk.2) (.int .u64 t277)) (fun _ hk => hk.2) (.slice Ao77 t278.length co77)) (fun _ h_ => h_.1)))) hb); replace HO269 := am (Kd.V_below (pv ((Kd.V_mono (Kd.V_far (p := ⟨gb282, 2, none⟩) (Kd.V_far (p := ⟨gb282, 1, none⟩) (Kd.V_far (p := ⟨gb282, 0, none⟩) (Kd.V_mono HO269.out (fun k_ hk => (⟨hk, hk.2⟩ : _ ∧ k_ ≠ gb282))) (fun _ hk => hk.2) (.int .u64 t276)) (fun _ hk => hk.2) (.int .u64 t277)) (fun _ hk => hk.2) (.slice Ao77 t278.length co77)) (fun _ h_ => h_.1)))) hb); replace HO280 := am (Kd.V_below (pv ((Kd.V_mono (Kd.V_far (p := ⟨gb282, 2, none⟩) (Kd.V_far (p := ⟨gb282, 1, none⟩) (Kd.V_far (p := ⟨gb282, 0, none⟩) (Kd.V_mono HO280.out (fun k_ hk => (⟨hk, hk.2⟩ : _ ∧ k_ ≠ gb282))) (fun _ hk => hk.2) (.int .u64 t276)) (fun _ hk => hk.2) (.int .u64 t277)) (fun _ hk => hk.2) (.slice Ao77 t278.length co77)) (fun _ h_ => h_.1)))) hb); replace BK253 := am (blk_below (g := gb253) (o := .cells #[.int .u64 x254000_1, .int .u64 x254001_1, .slice Ao62 x254002_1.length co62] 27 (0, 0)) (by refine pk ?_; refine blk_far ?_ NB253_282.out _; refine pk ?_; refine blk_far ?_ NB253_282.out _; refine pk ?_; refine blk_far ?_ NB253_282.out _; refine pk ?_; exact BK253.out) hb); replace BK271 := am (blk_below (g := gb271) (o := .cells #[.int .u64 t265, .int .u64 t266, .slice Ao67 t267.length co67] 27 (0, 0)) (by refine pk ?_; refine blk_far ?_ NB271_282.out _; refine pk ?_; refine blk_far ?_ NB271_282.out _; refine pk ?_; refine blk_far ?_ NB271_282.out _; refine pk ?_; exact BK271.out) hb); replace BK282 := am (blk_below (g := gb282) (o := .cells #[.int .u64 t276, .int .u64 t277, .slice Ao77 t278.length co77] 27 (0, 0)) (by refine pk ?_; refine blk_put (cs := #[.int .u64 t276, .int .u64 t277, .slice none 0 0]) ?_ 2 _ rfl; refine pk ?_; refine blk_put (cs := #[.int .u64 t276, .int .u64 0, .slice none 0 0]) ?_ 1 _ rfl; refine pk ?_; refine blk_put (cs := #[.int .u64 0, .int .u64 0, .slice none 0 0]) ?_ 0 _ rfl; refine pk ?_; exact BK282.out) hb); replace HB := am (below_step (pb HB) hb); (try clear hb); (try clear hb2); (try clear hk); (try clear hi); have hcz80_0 := ce BK271 0; have hcz80_1 := ce BK271 1; have hcz80_2 := ce BK271 2; have hfz80_0 := fz BK271 0; have hfz80_1 := fz BK271 1; have hfz80_2 := fz BK271 2) | (go_at_call 15; (with_reducible refine (index_Right.calls k1 t265 t266 _ _ t267 t284 _ ?side1 ?side2 A60.out).mono ?_); (case side1 => repeat (first | exact (Kd.V_reads' HO269.out).2.2 | (with_reducible refine Kd.C_alloc ?_ _) | (with_reducible refine Kd.C_drewN ?_ _) | (with_reducible refine Kd.C_drew ?_))); (case side2 => exact (Kd.V_reads' HO269.out).2.1); rintro e w81 ⟨rfl, hb⟩; replace HO_16 := am (Kd.R_below (pr HO_16.out) hb); replace HO_254002 := am (Kd.V_below (pv HO_254002.out) hb); replace HO269 := am (Kd.V_below (pv HO269.out) hb); replace HO280 := am (Kd.V_below (pv HO280.out) hb); replace BK253 := am (blk_below (pk BK253.out) hb); replace BK271 := am (blk_below (pk BK271.out) hb); replace BK282 := am (blk_below (pk BK282.out) hb); replace HB := am (below_step (pb HB) hb); (try clear hb); (try clear hb2); (try clear hk); (try clear hi)))
           go_ret
           exact ⟨by first | rfl | (simp [errW_none, errW_some] <;> rfl) | (simp [*, errW_none, errW_some] <;> rfl), pb HB⟩
          ·rw [if_neg c59] at H
           exact Bool.noConfusion ((Option.some.inj H).trans hrT.out)
        ·replace c38 := Bool.eq_false_iff.mpr c38
         subst c38
         have H1 : (some false) = some r := by rw [if_neg (show ¬ (false = true) by decide)] at H; exact H
         exact Bool.noConfusion ((Option.some.inj H1).trans hrT.out)
       ·rw [if_neg c37] at H
        exact Bool.noConfusion ((Option.some.inj H).trans hrT.out)
      ·rw [if_neg c36] at H
       exact Bool.noConfusion ((Option.some.inj H).trans hrT.out)
     ·rw [if_neg c35] at H
      exact Bool.noConfusion ((Option.some.inj H).trans hrT.out)
    ·rw [if_neg c33] at H
     exact Bool.noConfusion ((Option.some.inj H).trans hrT.out)
end Go.Proofs.Ytojpmjkphgjmgaa.H
