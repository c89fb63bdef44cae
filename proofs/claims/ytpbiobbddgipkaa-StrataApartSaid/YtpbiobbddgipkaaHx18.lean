import Derived.Test.YtpbiobbddgipkaaHx0
import Derived.Test.YtpbiobbddgipkaaHx4
import Derived.Test.YtpbiobbddgipkaaHx11
import Derived.Test.YtpbiobbddgipkaaHx14
import Derived.Test.YtpbiobbddgipkaaHx17
namespace Go.Proofs.Ytpbiobbddgipkaa.H
open Go.RowKit Go.Proofs.YtpbiobbddgipkaaW.PrintWords Go.Proofs.YtpbiobbddgipkaaW.PrintLast Go.Proofs.YtpbiobbddgipkaaW.PrintMore Go.Proofs.YtpbiobbddgipkaaW.Sq
attribute [local go_sem] max2_int min2_int max_two min_two max_three min_three max_four min_four
set_option linter.unusedVariables false
set_option linter.unusedSimpArgs false

def samphirelaw21_awake.l0 : Nat → Int → List ByteArray → Int → Int → Int → Int → Int → Int → List (S42) → Option (Bool)
 | 0, _, _, _, _, _, _, _, _, _ => none
 | k + 1, x2, x18, x19, x20, x331000, x331001, x331002, x331003, x331004 => if x20 < x19 then (if 0 ≤ x20 then (if x20 < (x18.length : Int) then ((strata_Add.f k x331000 x331001 x331002 x331003 x331004 (rdOf ByteArray.empty x18 x20) (⟨#[107, 101, 121]⟩ : ByteArray) 2).bind fun bt335 => (if bt335.2.2.2.2.2 = 0 then (samphirelaw21_awake.l0 k x2 x18 x19 (wrap64 (x20 + 1)) bt335.1 bt335.2.1 bt335.2.2.1 bt335.2.2.2.1 bt335.2.2.2.2.1) else (some false))) else (none)) else (none)) else ((strata_Merge.f k x331000 x331001 x331002 x331003 x331004 x331000 x331001 x331002 x331003 x331004).bind fun bt344 => ((strata_Get.f k x331000 x331001 x331002 x331003 x331004 (⟨#[122, 122]⟩ : ByteArray)).bind fun bt353 => ((strata_Add.f k x331000 x331001 x331002 x331003 x331004 (⟨#[97]⟩ : ByteArray) (⟨#[107, 101, 121]⟩ : ByteArray) 0).bind fun bt361 => (if x2 = 0 then (if (x331004.length : Int) = 2 then (if bt344.2.2.2.2.2 = 0 then (if (bt344.2.2.2.2.1.length : Int) = 2 then (if bt353.2.2.2.2 = 3 then (if bt361.2.2.2.2.2 = 7 then ((strata_Right.f k bt344.1 bt344.2.1 bt344.2.2.1 bt344.2.2.2.1 bt344.2.2.2.2.1).bind fun t370 => (if t370 = true then (some true) else (some false))) else (some false)) else (some false)) else (some false)) else (some false)) else (some false)) else (some false)))))
def samphirelaw21_awake.f (k : Nat)  : Option (Bool) := (strata_New.f 4 0 2 3).bind fun bt322 => ((some (([(⟨#[97]⟩ : ByteArray), (⟨#[98]⟩ : ByteArray), (⟨#[99]⟩ : ByteArray), (⟨#[97]⟩ : ByteArray)] : List ByteArray) : List ByteArray)).bind fun y331 => (samphirelaw21_awake.l0 k bt322.2.2.2.2.2 y331 (y331.length : Int) 0 bt322.1 bt322.2.1 bt322.2.2.1 bt322.2.2.2.1 bt322.2.2.2.2.1))
theorem samphirelaw21_awake.mono_l : ∀ k, (∀ y0 y1 y2 y3 y4 y5 y6 y7 y8, LeO (samphirelaw21_awake.l0 k y0 y1 y2 y3 y4 y5 y6 y7 y8) (samphirelaw21_awake.l0 (k + 1) y0 y1 y2 y3 y4 y5 y6 y7 y8))
 | 0 => fun _ _ _ _ _ _ _ _ _ r h => by simp [samphirelaw21_awake.l0] at h
 | k + 1 => by
  have ih0 := samphirelaw21_awake.mono_l k
  ·intro y0 y1 y2 y3 y4 y5 y6 y7 y8
   unfold samphirelaw21_awake.l0
   repeat' first
   | (with_reducible exact ih0 _ _ _ _ _ _ _ _ _)
   | (with_reducible exact strata_Add.mono _ _ _ _ _ _ _ _ _)
   | (with_reducible exact strata_Get.mono _ _ _ _ _ _ _)
   | (with_reducible exact strata_Merge.mono _ _ _ _ _ _ _ _ _ _ _)
   | (with_reducible exact strata_Right.mono _ _ _ _ _ _)
   | (with_reducible exact LeO.refl _)
   | (with_reducible exact LeO.none _)
   | (with_reducible refine LeO.ite ?_ ?_)
   | (with_reducible refine LeO.bind ?_ (fun _ => ?_))
theorem samphirelaw21_awake.mono : ∀ k, LeO (samphirelaw21_awake.f k ) (samphirelaw21_awake.f (k + 1) ) := by
 intro  k
 have ih0 := samphirelaw21_awake.mono_l k
 unfold samphirelaw21_awake.f
 repeat' first
   | (with_reducible exact ih0 _ _ _ _ _ _ _ _ _)
   | (with_reducible exact strata_Add.mono _ _ _ _ _ _ _ _ _)
   | (with_reducible exact strata_Get.mono _ _ _ _ _ _ _)
   | (with_reducible exact strata_Merge.mono _ _ _ _ _ _ _ _ _ _ _)
   | (with_reducible exact strata_Right.mono _ _ _ _ _ _)
   | (with_reducible exact LeO.refl _)
   | (with_reducible exact LeO.none _)
   | (with_reducible refine LeO.ite ?_ ?_)
   | (with_reducible refine LeO.bind ?_ (fun _ => ?_))
set_option maxHeartbeats 8000000 in
set_option maxRecDepth 100000 in
theorem samphirelaw21_awake.calls (k : Nat)  (r : Bool) (hrT : Aside0 (r = true)) (w : World) (h : samphirelaw21_awake.f k  = some r) :
  Calls Try.prog 9 #[] w fun e w' => e = .returned (.bool r) ∧ Below w.heap.size w w' := by
 have hu24 := Try.underlying24
 have hu28 := Try.underlying28
 have hu40 := Try.underlying40
 have HB := am (Below.refl w.heap.size w)
 have H : ((strata_New.f 4 0 2 3).bind fun bt322 => ((some (([(⟨#[97]⟩ : ByteArray), (⟨#[98]⟩ : ByteArray), (⟨#[99]⟩ : ByteArray), (⟨#[97]⟩ : ByteArray)] : List ByteArray) : List ByteArray)).bind fun y331 => (samphirelaw21_awake.l0 k bt322.2.2.2.2.2 y331 (y331.length : Int) 0 bt322.1 bt322.2.1 bt322.2.2.1 bt322.2.2.2.1 bt322.2.2.2.2.1))) = some r := h
 clear h
 replace H := Option.bind_eq_some_iff.mp H
 obtain ⟨⟨t322, t323, t324, t325, t326, t329⟩, A10, H⟩ := H
 try dsimp only at H
 have A1 := am A10
 clear A10
 obtain ⟨y331, hy331⟩ : ∃ y_ : List ByteArray, y_ = (([(⟨#[97]⟩ : ByteArray), (⟨#[98]⟩ : ByteArray), (⟨#[99]⟩ : ByteArray), (⟨#[97]⟩ : ByteArray)] : List ByteArray)) := ⟨_, rfl⟩
 replace H : (samphirelaw21_awake.l0 k t329 y331 (y331.length : Int) 0 t322 t323 t324 t325 t326) = some r := by first | (rw [hy331]; with_reducible exact H) | (have H2_ := (Option.bind_some _ _).symm.trans H; rw [hy331]; with_reducible exact H2_) | (have H2_ := (Option.bind_some _ _).symm.trans H; with_reducible exact H2_) | with_reducible exact H | (rw [hy331]; exact H) | exact H
 have Ny331 := am hy331
 clear hy331
 have H' := am H
 clear H
 go_enter Try.func9, Try.ntmps9
 go_wp2_with (first | ((with_reducible refine gate_callee (f := 8) rfl ?_); refine gl (some 15) Try.func8 #[.agg #[.int .u64 4, .int .u64 0], .int .i64 2, .int .i64 3] ?_; (with_reducible refine (strata_New.calls 4 0 2 3 t322 t323 t324 t325 t326 t329 _ A1.out).mono ?_); rintro e w2 ⟨v327, rfl, ho0, hb⟩; refine ⟨_, rfl, ?_⟩; have HO328 := am (Kd.V_lower (Kd.V_mono (ok' := fun k_ => True) ho0 (fun k_ hk_ => trivial)) (below_size (pb HB))); replace HB := am (below_step (pb HB) hb); (try clear hb); (try clear hb2); (try clear hk); (try clear hi); (try clear ho0)) | ((with_reducible refine gate_dst (N := 1) rfl ?_); (try (refine gate_guard (by rfl) ?_; dsimp only)); refine be 1 #[.int .u64 0, .int .u64 0, .int .i64 0, .int .i64 0, .slice none 0 0] 28 ?_; intro gb330 hg w3 hbox hb; replace HO328 := am (Kd.V_below (Kd.V_elderB (pv HO328.out) gb330 (Nat.le_of_eq hg.symm)) hb); have BK330 := am (hbox); have GW330 := am ((pg hg HB : w.heap.size ≤ gb330)); have GE330 := am ((pg hg HB : w.heap.size ≤ gb330)); replace HB := am (below_step (pb HB) hb); clear hb hbox hg; obtain ⟨hcz4_0, hcz4_1, hcz4_2, hcz4_3, hcz4_4, hfz4_0, hfz4_1, hfz4_2, hfz4_3, hfz4_4⟩ := g5 BK330; obtain ⟨Ao5, co5, eo5⟩ := Kd.V_slice HO328.out; subst eo5) | ((with_reducible refine gate_dst (N := 18) rfl ?_); (try (refine gate_guard (by rfl) ?_; dsimp only)); refine Kd.R_lit Kd.string _ 9 ?hg (N := 18) ?hd (xs := ([(⟨#[97]⟩ : ByteArray), (⟨#[98]⟩ : ByteArray), (⟨#[99]⟩ : ByteArray), (⟨#[97]⟩ : ByteArray)] : List ByteArray)) (inner := [.string (⟨#[97]⟩ : ByteArray), .string (⟨#[98]⟩ : ByteArray), .string (⟨#[99]⟩ : ByteArray), .string (⟨#[97]⟩ : ByteArray)]) (ok := fun _ => True) (okp := fun _ => True) ?hr ?hp (fun _ hk => hk) trivial (Below.refl _ _) (Nat.le_refl _) (by simp) ?_; (case hd => rfl); (case hg => rfl); (case hr => first | (go_simp; done) | (go_simp; rfl)); (case hp => exact (Reps.one (show Kd.M Kd.string _ _ _ (⟨#[97]⟩ : ByteArray) [.string (⟨#[97]⟩ : ByteArray)] from rfl) (Reps.one (show Kd.M Kd.string _ _ _ (⟨#[98]⟩ : ByteArray) [.string (⟨#[98]⟩ : ByteArray)] from rfl) (Reps.one (show Kd.M Kd.string _ _ _ (⟨#[99]⟩ : ByteArray) [.string (⟨#[99]⟩ : ByteArray)] from rfl) (Reps.one (show Kd.M Kd.string _ _ _ (⟨#[97]⟩ : ByteArray) [.string (⟨#[97]⟩ : ByteArray)] from rfl) (Reps.none _ _)))))); intro v332 w6 ho7 hb hg_ hnew_; clear hg_ hnew_; (first | rw [← Ny331.out] at ho7 | (simp only [Int.reduceToNat] at ho7; rw [← Ny331.out] at ho7)); replace HO328 := am (Kd.V_elder' (pv ((Kd.V_mono (Kd.V_far (p := ⟨gb330, 4, none⟩) (Kd.V_far (p := ⟨gb330, 3, none⟩) (Kd.V_far (p := ⟨gb330, 2, none⟩) (Kd.V_far (p := ⟨gb330, 1, none⟩) (Kd.V_far (p := ⟨gb330, 0, none⟩) (Kd.V_mono HO328.out (fun k_ hk => (⟨hk, hk.2⟩ : _ ∧ k_ ≠ gb330))) (fun _ hk => hk.2) (.int .u64 t322)) (fun _ hk => hk.2) (.int .u64 t323)) (fun _ hk => hk.2) (.int .i64 t324)) (fun _ hk => hk.2) (.int .i64 t325)) (fun _ hk => hk.2) (.slice Ao5 t326.length co5)) (fun _ h_ => h_.1)))) (Kd.R_base ho7) hb); have HO333 := am (Kd.R_lower ho7 (below_size (pb HB))); replace BK330 := am (blk_below (g := gb330) (o := .cells #[.int .u64 t322, .int .u64 t323, .int .i64 t324, .int .i64 t325, .slice Ao5 t326.length co5] 28 (0, 0)) (by refine pk ?_; refine blk_put (cs := #[.int .u64 t322, .int .u64 t323, .int .i64 t324, .int .i64 t325, .slice none 0 0]) ?_ 4 _ rfl; refine pk ?_; refine blk_put (cs := #[.int .u64 t322, .int .u64 t323, .int .i64 t324, .int .i64 0, .slice none 0 0]) ?_ 3 _ rfl; refine pk ?_; refine blk_put (cs := #[.int .u64 t322, .int .u64 t323, .int .i64 0, .int .i64 0, .slice none 0 0]) ?_ 2 _ rfl; refine pk ?_; refine blk_put (cs := #[.int .u64 t322, .int .u64 0, .int .i64 0, .int .i64 0, .slice none 0 0]) ?_ 1 _ rfl; refine pk ?_; refine blk_put (cs := #[.int .u64 0, .int .u64 0, .int .i64 0, .int .i64 0, .slice none 0 0]) ?_ 0 _ rfl; refine pk ?_; exact BK330.out) hb); replace HB := am (below_step (pb HB) hb); clear hb ho7; obtain ⟨Ao8, co8, eo8⟩ := Kd.R_slice HO333.out; subst eo8))
 go_loopg [20] k (fun kq v20 w' => ∃ (x20_1 : Int) (x331000_1 : Int) (x331001_1 : Int) (x331002_1 : Int) (x331003_1 : Int) (x331004_1 : List (S42)) (u331004 : Value), v20 = .int .i64 x20_1 ∧ Aside0 (samphirelaw21_awake.l0 kq t329 y331 (y331.length : Int) x20_1 x331000_1 x331001_1 x331002_1 x331003_1 x331004_1 = some r) ∧ Aside0 (kq ≤ k) ∧ Aside0 (Kd.R Kd.string 9 w' w.heap.size (fun _ => True) (.slice Ao8 y331.length co8) y331) ∧ Aside0 (Kd.V k42 42 w' w.heap.size (fun k_ => some k_ ≠ ((.slice Ao8 y331.length co8) : Value).ownBlock ∧ k_ ≠ gb330) u331004 x331004_1) ∧ Aside0 (w'.heap[gb330]? = some (.cells #[.int .u64 x331000_1, .int .u64 x331001_1, .int .i64 x331002_1, .int .i64 x331003_1, u331004] 28 (0, 0))) ∧ Aside0 (Below w.heap.size w w'))
 case atStart => exact ⟨(0), (t322), (t323), (t324), (t325), (t326), (.slice Ao5 t326.length co5), (by first | rfl | (simp; done) | (simp [*]; done)), H', ⟨Nat.le_refl _⟩, ⟨pr HO333.out⟩, ⟨by refine pv ?_; exact Kd.V_mono HO328.out (fun _ hk => ⟨hk.2, hk.1.2⟩)⟩, ⟨pk BK330.out⟩, ⟨pb HB⟩⟩
 case round =>
  clear H'
  try clear p2
  try clear c8
  try clear hcz4_0 hcz4_1 hcz4_2 hcz4_3 hcz4_4 hfz4_0 hfz4_1 hfz4_2 hfz4_3 hfz4_4
  obtain ⟨x20_1, x331000_1, x331001_1, x331002_1, x331003_1, x331004_1, u331004, rfl, HA, HK1, HO_18, HO_331004, BK330, HB⟩ := hrel
  cases gk with
  | zero => exact absurd HA.out (by simp [samphirelaw21_awake.l0])
  | succ k1 =>
   have H := HA.out
   clear HA
   simp only [samphirelaw21_awake.l0] at H
   by_cases c9 : x20_1 < (y331.length : Int)
   ·rw [if_pos c9] at H
    have c9b0 : decide (x20_1 < (y331.length : Int)) = true := decide_eq_true c9
    clear c9
    by_cases c10 : 0 ≤ x20_1
    ·rw [if_pos c10] at H
     have c10b0 : decide (0 ≤ x20_1) = true := decide_eq_true c10
     clear c10
     by_cases c11 : x20_1 < (y331.length : Int)
     ·rw [if_pos c11] at H
      have c11b0 : decide (x20_1 < (y331.length : Int)) = true := decide_eq_true c11
      clear c11
      replace H := Option.bind_eq_some_iff.mp H
      obtain ⟨⟨t335, t336, t337, t338, t339, t342⟩, A120, H⟩ := H
      try dsimp only at H
      have A12 := am A120
      clear A120
      by_cases c13 : t342 = 0
      ·rw [if_pos c13] at H
       have c13b0 : (t342 == 0) = true := beq_iff_eq.mpr c13
       have c13b1 : (t342 != 0) = false := bne_eq_false_iff_eq.mpr c13
       clear c13
       have H' := am H
       clear H
       have p334 : 0 ≤ (x20_1 : Int) := of_decide_eq_true (by first | (with_reducible assumption) | assumption)
       have q334 : x20_1 < (y331.length : Int) := of_decide_eq_true (by first | (with_reducible assumption) | assumption)
       obtain ⟨ad334, e334, hx334_0⟩ := Kd.at_string (Kd.R_reads' HO_18.out).2.2 x20_1 p334 q334
       cases e334
       replace p334 := eq_true p334
       replace q334 := eq_true q334
       obtain ⟨hcz14_0, hcz14_1, hcz14_2, hcz14_3, hcz14_4, hfz14_0, hfz14_1, hfz14_2, hfz14_3, hfz14_4⟩ := g5 BK330
       obtain ⟨Ao15, co15, eo15⟩ := Kd.V_slice HO_331004.out
       subst eo15
       go_wp2_with (first | ((with_reducible refine gate_callee (f := 10) rfl ?_); refine gl (some 27) Try.func10 #[.agg #[.int .u64 x331000_1, .int .u64 x331001_1, .int .i64 x331002_1, .int .i64 x331003_1, .slice Ao15 x331004_1.length co15], .string (rdOf ByteArray.empty y331 x20_1), .string (⟨#[107, 101, 121]⟩ : ByteArray), .int .u64 2] ?_; (with_reducible refine (strata_Add.calls k1 x331000_1 x331001_1 x331002_1 x331003_1 (fun k_ => (some k_ ≠ (.slice (some ad334) y331.length co8 : Value).ownBlock ∧ k_ ≠ gb330)) _ _ x331004_1 (rdOf ByteArray.empty y331 x20_1) (⟨#[107, 101, 121]⟩ : ByteArray) 2 t335 t336 t337 t338 t339 t342 _ ?side1 A12.out).mono ?_); (case side1 => exact HO_331004.out); rintro e w16 ⟨v340, rfl, ho0, hb⟩; refine ⟨_, rfl, ?_⟩; replace HO_331004 := am (Kd.V_below (pv HO_331004.out) hb); have HO341 := am (Kd.V_lower (Kd.V_mono (ok' := fun k_ => some k_ ≠ (.slice (some ad334) y331.length co8 : Value).ownBlock ∧ k_ ≠ gb330) ho0 (fun k_ hk_ => ⟨Or.elim hk_ (fun hs_ => hs_.1) (fun hn_ => (Kd.fresh' (Kd.R_lt (pr HO_18.out)) k_ hn_)), Or.elim hk_ (fun hs_ => hs_.2) (fun hn_ => (Kd.freshB (g := gb330) (o := .cells #[.int .u64 x331000_1, .int .u64 x331001_1, .int .i64 x331002_1, .int .i64 x331003_1, .slice Ao15 x331004_1.length co15] 28 (0, 0)) (pk BK330.out) k_ hn_))⟩)) (below_size (pb HB))); replace HO_18 := am (Kd.R_below (pr HO_18.out) hb); replace BK330 := am (blk_below (pk BK330.out) hb); replace HB := am (below_step (pb HB) hb); (try clear hb); (try clear hb2); (try clear hk); (try clear hi); (try clear ho0)) | ((with_reducible refine gate_dst (N := 5) rfl ?_); (try (refine gate_guard (by rfl) ?_; dsimp only)); refine be 5 #[.int .u64 0, .int .u64 0, .int .i64 0, .int .i64 0, .slice none 0 0] 28 ?_; intro gb343 hg w17 hbox hb; replace HO_18 := am (Kd.R_below (pr HO_18.out) hb); replace HO_331004 := am (Kd.V_below (Kd.V_elderB (pv HO_331004.out) gb343 (Nat.le_of_eq hg.symm)) hb); replace HO341 := am (Kd.V_below (Kd.V_elderB (pv HO341.out) gb343 (Nat.le_of_eq hg.symm)) hb); have BK343 := am (hbox); have GW343 := am ((pg hg HB : w.heap.size ≤ gb343)); have GE343 := am ((pg hg HB : w.heap.size ≤ gb343)); replace HB := am (below_step (pb HB) hb); obtain ⟨NB330_343, NB343_330, hnc18, hnb18⟩ := pm hg BK330; replace BK330 := am (blk_below (pk BK330.out) hb); clear hb hbox hg; obtain ⟨hcz19_0, hcz19_1, hcz19_2, hcz19_3, hcz19_4, hfz19_0, hfz19_1, hfz19_2, hfz19_3, hfz19_4⟩ := g5 BK343; obtain ⟨Ao20, co20, eo20⟩ := Kd.V_slice HO341.out; subst eo20; obtain ⟨hcz21_0, hcz21_1, hcz21_2, hcz21_3, hcz21_4, hfz21_0, hfz21_1, hfz21_2, hfz21_3, hfz21_4⟩ := g5 BK330))
       go_roundg k1
       case measure => have := HK1.out; omega
       case rel => exact ⟨(wrap64 (x20_1 + 1)), (t335), (t336), (t337), (t338), (t339), (.slice Ao20 t339.length co20), (by first | rfl | (simp; done) | (simp [*]; done)), H', ⟨by have := HK1.out; omega⟩, ⟨by refine pr ?_; exact Kd.R_mono (Kd.R_far (p := ⟨gb330, 4, none⟩) (Kd.R_far (p := ⟨gb330, 3, none⟩) (Kd.R_far (p := ⟨gb330, 2, none⟩) (Kd.R_far (p := ⟨gb330, 1, none⟩) (Kd.R_far (p := ⟨gb330, 0, none⟩) (Kd.R_far (p := ⟨gb343, 4, none⟩) (Kd.R_far (p := ⟨gb343, 3, none⟩) (Kd.R_far (p := ⟨gb343, 2, none⟩) (Kd.R_far (p := ⟨gb343, 1, none⟩) (Kd.R_far (p := ⟨gb343, 0, none⟩) (Kd.R_types (Kd.R_types HO_18.out BK343.out (by decide)) BK330.out (by decide)) (fun _ hk => hk.1.2) (.int .u64 t335)) (fun _ hk => hk.1.2) (.int .u64 t336)) (fun _ hk => hk.1.2) (.int .i64 t337)) (fun _ hk => hk.1.2) (.int .i64 t338)) (fun _ hk => hk.1.2) (.slice Ao20 t339.length co20)) (fun _ hk => hk.2) (.int .u64 t335)) (fun _ hk => hk.2) (.int .u64 t336)) (fun _ hk => hk.2) (.int .i64 t337)) (fun _ hk => hk.2) (.int .i64 t338)) (fun _ hk => hk.2) (.slice Ao20 t339.length co20)) (fun _ hk => trivial)⟩, ⟨by refine pv ?_; exact Kd.V_mono (Kd.V_far (p := ⟨gb330, 4, none⟩) (Kd.V_far (p := ⟨gb330, 3, none⟩) (Kd.V_far (p := ⟨gb330, 2, none⟩) (Kd.V_far (p := ⟨gb330, 1, none⟩) (Kd.V_far (p := ⟨gb330, 0, none⟩) (Kd.V_far (p := ⟨gb343, 4, none⟩) (Kd.V_far (p := ⟨gb343, 3, none⟩) (Kd.V_far (p := ⟨gb343, 2, none⟩) (Kd.V_far (p := ⟨gb343, 1, none⟩) (Kd.V_far (p := ⟨gb343, 0, none⟩) (Kd.V_mono (Kd.V_mono HO341.out (fun k_ hk => (⟨hk, hk.2⟩ : _ ∧ k_ ≠ gb343))) (fun k_ hk => (⟨hk, hk.1.1.2⟩ : _ ∧ k_ ≠ gb330))) (fun _ hk => hk.1.2) (.int .u64 t335)) (fun _ hk => hk.1.2) (.int .u64 t336)) (fun _ hk => hk.1.2) (.int .i64 t337)) (fun _ hk => hk.1.2) (.int .i64 t338)) (fun _ hk => hk.1.2) (.slice Ao20 t339.length co20)) (fun _ hk => hk.2) (.int .u64 t335)) (fun _ hk => hk.2) (.int .u64 t336)) (fun _ hk => hk.2) (.int .i64 t337)) (fun _ hk => hk.2) (.int .i64 t338)) (fun _ hk => hk.2) (.slice Ao20 t339.length co20)) (fun _ hk => ⟨hk.1.1.1.1, hk.1.1.1.2⟩)⟩, ⟨by refine pk ?_; refine blk_put (cs := #[.int .u64 t335, .int .u64 t336, .int .i64 t337, .int .i64 t338, .slice Ao15 x331004_1.length co15]) ?_ 4 _ rfl; refine pk ?_; refine blk_put (cs := #[.int .u64 t335, .int .u64 t336, .int .i64 t337, .int .i64 x331003_1, .slice Ao15 x331004_1.length co15]) ?_ 3 _ rfl; refine pk ?_; refine blk_put (cs := #[.int .u64 t335, .int .u64 t336, .int .i64 x331002_1, .int .i64 x331003_1, .slice Ao15 x331004_1.length co15]) ?_ 2 _ rfl; refine pk ?_; refine blk_put (cs := #[.int .u64 t335, .int .u64 x331001_1, .int .i64 x331002_1, .int .i64 x331003_1, .slice Ao15 x331004_1.length co15]) ?_ 1 _ rfl; refine pk ?_; refine blk_put (cs := #[.int .u64 x331000_1, .int .u64 x331001_1, .int .i64 x331002_1, .int .i64 x331003_1, .slice Ao15 x331004_1.length co15]) ?_ 0 _ rfl; refine pk ?_; refine blk_far ?_ NB330_343.out _; refine pk ?_; refine blk_far ?_ NB330_343.out _; refine pk ?_; refine blk_far ?_ NB330_343.out _; refine pk ?_; refine blk_far ?_ NB330_343.out _; refine pk ?_; refine blk_far ?_ NB330_343.out _; refine pk ?_; exact BK330.out⟩, ⟨pb HB⟩⟩
      ·rw [if_neg c13] at H
       exact Bool.noConfusion ((Option.some.inj H).trans hrT.out)
     ·rw [if_neg c11] at H
      exact absurd H (by simp)
    ·rw [if_neg c10] at H
     exact absurd H (by simp)
   ·rw [if_neg c9] at H
    have c9b0 : decide (x20_1 < (y331.length : Int)) = false := decide_eq_false c9
    clear c9
    replace H := Option.bind_eq_some_iff.mp H
    obtain ⟨⟨t344, t345, t346, t347, t348, t351⟩, A290, H⟩ := H
    try dsimp only at H
    have A29 := am A290
    clear A290
    replace H := Option.bind_eq_some_iff.mp H
    obtain ⟨⟨t353, t354, t355, t356, t359⟩, A300, H⟩ := H
    try dsimp only at H
    have A30 := am A300
    clear A300
    replace H := Option.bind_eq_some_iff.mp H
    obtain ⟨⟨t361, t362, t363, t364, t365, t368⟩, A310, H⟩ := H
    try dsimp only at H
    have A31 := am A310
    clear A310
    by_cases c32 : t329 = 0
    ·rw [if_pos c32] at H
     have c32b0 : (t329 == 0) = true := beq_iff_eq.mpr c32
     have c32b1 : (t329 != 0) = false := bne_eq_false_iff_eq.mpr c32
     clear c32
     by_cases c33 : (x331004_1.length : Int) = 2
     ·rw [if_pos c33] at H
      have c33b0 : ((x331004_1.length : Int) == 2) = true := beq_iff_eq.mpr c33
      have c33b1 : ((x331004_1.length : Int) != 2) = false := bne_eq_false_iff_eq.mpr c33
      clear c33
      by_cases c34 : t351 = 0
      ·rw [if_pos c34] at H
       have c34b0 : (t351 == 0) = true := beq_iff_eq.mpr c34
       have c34b1 : (t351 != 0) = false := bne_eq_false_iff_eq.mpr c34
       clear c34
       by_cases c35 : (t348.length : Int) = 2
       ·rw [if_pos c35] at H
        have c35b0 : ((t348.length : Int) == 2) = true := beq_iff_eq.mpr c35
        have c35b1 : ((t348.length : Int) != 2) = false := bne_eq_false_iff_eq.mpr c35
        clear c35
        by_cases c36 : t359 = 3
        ·rw [if_pos c36] at H
         have c36b0 : (t359 == 3) = true := beq_iff_eq.mpr c36
         have c36b1 : (t359 != 3) = false := bne_eq_false_iff_eq.mpr c36
         clear c36
         by_cases c37 : t368 = 7
         ·rw [if_pos c37] at H
          have c37b0 : (t368 == 7) = true := beq_iff_eq.mpr c37
          have c37b1 : (t368 != 7) = false := bne_eq_false_iff_eq.mpr c37
          clear c37
          replace H := Option.bind_eq_some_iff.mp H
          obtain ⟨t370, A380, H⟩ := H
          try dsimp only at H
          have A38 := am A380
          clear A380
          by_cases c39 : t370 = true
          ·subst c39
           have H1 : (some true) = some r := by rw [if_pos rfl] at H; exact H
           clear H
           have H := H1
           clear H1
           obtain rfl := Option.some.inj H
           obtain ⟨hcz40_0, hcz40_1, hcz40_2, hcz40_3, hcz40_4, hfz40_0, hfz40_1, hfz40_2, hfz40_3, hfz40_4⟩ := g5 BK330
           obtain ⟨Ao41, co41, eo41⟩ := Kd.V_slice HO_331004.out
           subst eo41
           go_wp2_with (first | ((with_reducible refine gate_callee (f := 26) rfl ?_); refine gl (some 37) Try.func26 #[.agg #[.int .u64 x331000_1, .int .u64 x331001_1, .int .i64 x331002_1, .int .i64 x331003_1, .slice Ao41 x331004_1.length co41], .agg #[.int .u64 x331000_1, .int .u64 x331001_1, .int .i64 x331002_1, .int .i64 x331003_1, .slice Ao41 x331004_1.length co41]] ?_; (with_reducible refine (strata_Merge.calls k1 x331000_1 x331001_1 x331002_1 x331003_1 (fun k_ => (some k_ ≠ (.slice Ao8 y331.length co8 : Value).ownBlock ∧ k_ ≠ gb330)) _ _ x331004_1 x331000_1 x331001_1 x331002_1 x331003_1 (fun k_ => (some k_ ≠ (.slice Ao8 y331.length co8 : Value).ownBlock ∧ k_ ≠ gb330)) _ _ x331004_1 t344 t345 t346 t347 t348 t351 _ ?side1 ?side2 A29.out).mono ?_); (case side1 => exact HO_331004.out); (case side2 => exact HO_331004.out); rintro e w42 ⟨v349, rfl, ho0, hb⟩; refine ⟨_, rfl, ?_⟩; replace HO_331004 := am (Kd.V_below (pv HO_331004.out) hb); have HO350 := am (Kd.V_lower (Kd.V_mono (ok' := fun k_ => some k_ ≠ (.slice Ao8 y331.length co8 : Value).ownBlock ∧ k_ ≠ gb330) ho0 (fun k_ hk_ => ⟨Or.elim hk_ (fun hs_ => Or.elim hs_ (fun hs_ => hs_.1) (fun hs_ => hs_.1)) (fun hn_ => (Kd.fresh' (Kd.R_lt (pr HO_18.out)) k_ hn_)), Or.elim hk_ (fun hs_ => Or.elim hs_ (fun hs_ => hs_.2) (fun hs_ => hs_.2)) (fun hn_ => (Kd.freshB (g := gb330) (o := .cells #[.int .u64 x331000_1, .int .u64 x331001_1, .int .i64 x331002_1, .int .i64 x331003_1, .slice Ao41 x331004_1.length co41] 28 (0, 0)) (pk BK330.out) k_ hn_))⟩)) (below_size (pb HB))); replace HO_18 := am (Kd.R_below (pr HO_18.out) hb); replace BK330 := am (blk_below (pk BK330.out) hb); replace HB := am (below_step (pb HB) hb); (try clear hb); (try clear hb2); (try clear hk); (try clear hi); (try clear ho0)) | ((with_reducible refine gate_dst (N := 7) rfl ?_); (try (refine gate_guard (by rfl) ?_; dsimp only)); refine be 7 #[.int .u64 0, .int .u64 0, .int .i64 0, .int .i64 0, .slice none 0 0] 28 ?_; intro gb352 hg w43 hbox hb; replace HO_18 := am (Kd.R_below (pr HO_18.out) hb); replace HO_331004 := am (Kd.V_below (Kd.V_elderB (pv HO_331004.out) gb352 (Nat.le_of_eq hg.symm)) hb); replace HO350 := am (Kd.V_below (Kd.V_elderB (pv HO350.out) gb352 (Nat.le_of_eq hg.symm)) hb); have BK352 := am (hbox); have GW352 := am ((pg hg HB : w.heap.size ≤ gb352)); have GE352 := am ((pg hg HB : w.heap.size ≤ gb352)); replace HB := am (below_step (pb HB) hb); obtain ⟨NB330_352, NB352_330, hnc44, hnb44⟩ := pm hg BK330; replace BK330 := am (blk_below (pk BK330.out) hb); clear hb hbox hg; obtain ⟨hcz45_0, hcz45_1, hcz45_2, hcz45_3, hcz45_4, hfz45_0, hfz45_1, hfz45_2, hfz45_3, hfz45_4⟩ := g5 BK352; obtain ⟨Ao46, co46, eo46⟩ := Kd.V_slice HO350.out; subst eo46) | ((with_reducible refine gate_store (t := 28) (p := 7) rfl ?_); refine store_event (t := 28) (p := 7) (v := ?vo_w47) (w1 := (((((w43.setCell ⟨gb352, 0, none⟩ (.int .u64 t344)).setCell ⟨gb352, 1, none⟩ (.int .u64 t345)).setCell ⟨gb352, 2, none⟩ (.int .i64 t346)).setCell ⟨gb352, 3, none⟩ (.int .i64 t347)).setCell ⟨gb352, 4, none⟩ (.slice Ao46 t348.length co46))) ?hg ?ho ?hn ?hr ?_; (case ho => rfl); (case hg => rfl); (case hn => rfl); (case hr => first | (go_simp; done) | (go_simp; rfl)); intro w47 hw; replace HO_18 : Aside0 (Kd.R Kd.string 9 w47 w.heap.size (fun _ => True) (.slice Ao8 y331.length co8) y331) := ⟨(by rw [hw]; exact (pr (Kd.R_mono (Kd.R_far (p := ⟨gb352, 4, none⟩) (Kd.R_far (p := ⟨gb352, 3, none⟩) (Kd.R_far (p := ⟨gb352, 2, none⟩) (Kd.R_far (p := ⟨gb352, 1, none⟩) (Kd.R_far (p := ⟨gb352, 0, none⟩) (Kd.R_types HO_18.out BK352.out (by decide)) (fun _ hk => hk.2) (.int .u64 t344)) (fun _ hk => hk.2) (.int .u64 t345)) (fun _ hk => hk.2) (.int .i64 t346)) (fun _ hk => hk.2) (.int .i64 t347)) (fun _ hk => hk.2) (.slice Ao46 t348.length co46)) (fun _ hk => trivial))))⟩; replace HO_331004 := vf (f5 hw) HO_331004 (fun _ hk => hk.2); replace HO350 := vf (f5 hw) HO350 (fun _ hk => hk.2); replace BK330 := bf (f5 hw) BK330 NB330_352.out; replace BK352 := s5 hw BK352; replace HB : Aside0 (Below w.heap.size w w47) := ⟨(by rw [hw]; exact (pb HB))⟩; (try simp only [and_assoc] at HO_331004 HO350); clear hw; obtain ⟨hcz48_0, hcz48_1, hcz48_2, hcz48_3, hcz48_4, hfz48_0, hfz48_1, hfz48_2, hfz48_3, hfz48_4⟩ := g5 BK330) | ((with_reducible refine gate_callee (f := 14) rfl ?_); refine gl (some 42) Try.func14 #[.agg #[.int .u64 x331000_1, .int .u64 x331001_1, .int .i64 x331002_1, .int .i64 x331003_1, .slice Ao41 x331004_1.length co41], .string (⟨#[122, 122]⟩ : ByteArray)] ?_; (with_reducible refine (strata_Get.calls k1 x331000_1 x331001_1 x331002_1 x331003_1 (fun k_ => (some k_ ≠ (.slice Ao8 y331.length co8 : Value).ownBlock ∧ (k_ ≠ gb330 ∧ k_ ≠ gb352))) _ _ x331004_1 (⟨#[122, 122]⟩ : ByteArray) t353 t354 t355 t356 t359 _ ?side1 A30.out).mono ?_); (case side1 => exact HO_331004.out); rintro e w49 ⟨v357, rfl, ho0, hb⟩; refine ⟨_, rfl, ?_⟩; replace HO_331004 := am (Kd.V_below (pv HO_331004.out) hb); replace HO350 := am (Kd.V_below (pv HO350.out) hb); have HO358 := am (Kd.V_lower (Kd.V_mono (ok' := fun k_ => some k_ ≠ (.slice Ao8 y331.length co8 : Value).ownBlock ∧ k_ ≠ gb330 ∧ k_ ≠ gb352) ho0 (fun k_ hk_ => ⟨Or.elim hk_ (fun hs_ => hs_.1) (fun hn_ => (Kd.fresh' (Kd.R_lt (pr HO_18.out)) k_ hn_)), Or.elim hk_ (fun hs_ => hs_.2.1) (fun hn_ => (Kd.freshB (g := gb330) (o := .cells #[.int .u64 x331000_1, .int .u64 x331001_1, .int .i64 x331002_1, .int .i64 x331003_1, .slice Ao41 x331004_1.length co41] 28 (0, 0)) (pk BK330.out) k_ hn_)), Or.elim hk_ (fun hs_ => hs_.2.2) (fun hn_ => (Kd.freshB (g := gb352) (o := .cells #[.int .u64 t344, .int .u64 t345, .int .i64 t346, .int .i64 t347, .slice Ao46 t348.length co46] 28 (0, 0)) (pk BK352.out) k_ hn_))⟩)) (below_size (pb HB))); replace HO_18 := am (Kd.R_below (pr HO_18.out) hb); replace BK330 := am (blk_below (pk BK330.out) hb); replace BK352 := am (blk_below (pk BK352.out) hb); replace HB := am (below_step (pb HB) hb); (try clear hb); (try clear hb2); (try clear hk); (try clear hi); (try clear ho0)) | ((with_reducible refine gate_dst (N := 9) rfl ?_); (try (refine gate_guard (by rfl) ?_; dsimp only)); refine be 9 #[.int .u64 0, .int .u64 0, .int .i64 0, .slice none 0 0] 40 ?_; intro gb360 hg w50 hbox hb; replace HO_18 := am (Kd.R_below (pr HO_18.out) hb); replace HO_331004 := am (Kd.V_below (Kd.V_elderB (pv HO_331004.out) gb360 (Nat.le_of_eq hg.symm)) hb); replace HO350 := am (Kd.V_below (Kd.V_elderB (pv HO350.out) gb360 (Nat.le_of_eq hg.symm)) hb); replace HO358 := am (Kd.V_below (Kd.V_elderB (pv HO358.out) gb360 (Nat.le_of_eq hg.symm)) hb); have BK360 := am (hbox); have GW360 := am ((pg hg HB : w.heap.size ≤ gb360)); have GE360 := am ((pg hg HB : w.heap.size ≤ gb360)); replace HB := am (below_step (pb HB) hb); obtain ⟨NB330_360, NB360_330, hnc51, hnb51⟩ := pm hg BK330; replace BK330 := am (blk_below (pk BK330.out) hb); obtain ⟨NB352_360, NB360_352, hnc52, hnb52⟩ := pm hg BK352; replace BK352 := am (blk_below (pk BK352.out) hb); clear hb hbox hg; obtain ⟨hcz53_0, hcz53_1, hcz53_2, hcz53_3, hfz53_0, hfz53_1, hfz53_2, hfz53_3⟩ := g4 BK360; obtain ⟨Ao54, co54, eo54⟩ := Kd.V_slice HO358.out; subst eo54) | ((with_reducible refine gate_store (t := 40) (p := 9) rfl ?_); refine store_event (t := 40) (p := 9) (v := ?vo_w55) (w1 := ((((w50.setCell ⟨gb360, 0, none⟩ (.int .u64 t353)).setCell ⟨gb360, 1, none⟩ (.int .u64 t354)).setCell ⟨gb360, 2, none⟩ (.int .i64 t355)).setCell ⟨gb360, 3, none⟩ (.slice Ao54 t356.length co54))) ?hg ?ho ?hn ?hr ?_; (case ho => rfl); (case hg => rfl); (case hn => rfl); (case hr => first | (go_simp; done) | (go_simp; rfl)); intro w55 hw; replace HO_18 : Aside0 (Kd.R Kd.string 9 w55 w.heap.size (fun _ => True) (.slice Ao8 y331.length co8) y331) := ⟨(by rw [hw]; exact (pr (Kd.R_mono (Kd.R_far (p := ⟨gb360, 3, none⟩) (Kd.R_far (p := ⟨gb360, 2, none⟩) (Kd.R_far (p := ⟨gb360, 1, none⟩) (Kd.R_far (p := ⟨gb360, 0, none⟩) (Kd.R_types HO_18.out BK360.out (by decide)) (fun _ hk => hk.2) (.int .u64 t353)) (fun _ hk => hk.2) (.int .u64 t354)) (fun _ hk => hk.2) (.int .i64 t355)) (fun _ hk => hk.2) (.slice Ao54 t356.length co54)) (fun _ hk => trivial))))⟩; replace HO_331004 := vf (f4 hw) HO_331004 (fun _ hk => hk.2); replace HO350 := vf (f4 hw) HO350 (fun _ hk => hk.2); replace HO358 := vf (f4 hw) HO358 (fun _ hk => hk.2); replace BK330 := bf (f4 hw) BK330 NB330_360.out; replace BK352 := bf (f4 hw) BK352 NB352_360.out; replace BK360 := s4 hw BK360; replace HB : Aside0 (Below w.heap.size w w55) := ⟨(by rw [hw]; exact (pb HB))⟩; (try simp only [and_assoc] at HO_331004 HO350 HO358); clear hw; obtain ⟨hcz56_0, hcz56_1, hcz56_2, hcz56_3, hcz56_4, hfz56_0, hfz56_1, hfz56_2, hfz56_3, hfz56_4⟩ := g5 BK330) | ((with_reducible refine gate_callee (f := 10) rfl ?_); refine gl (some 47) Try.func10 #[.agg #[.int .u64 x331000_1, .int .u64 x331001_1, .int .i64 x331002_1, .int .i64 x331003_1, .slice Ao41 x331004_1.length co41], .string (⟨#[97]⟩ : ByteArray), .string (⟨#[107, 101, 121]⟩ : ByteArray), .int .u64 0] ?_; (with_reducible refine (strata_Add.calls k1 x331000_1 x331001_1 x331002_1 x331003_1 (fun k_ => (some k_ ≠ (.slice Ao8 y331.length co8 : Value).ownBlock ∧ (k_ ≠ gb330 ∧ (k_ ≠ gb352 ∧ k_ ≠ gb360)))) _ _ x331004_1 (⟨#[97]⟩ : ByteArray) (⟨#[107, 101, 121]⟩ : ByteArray) 0 t361 t362 t363 t364 t365 t368 _ ?side1 A31.out).mono ?_); (case side1 => exact HO_331004.out); rintro e w57 ⟨v366, rfl, ho0, hb⟩; refine ⟨_, rfl, ?_⟩; replace HO_331004 := am (Kd.V_below (pv HO_331004.out) hb); replace HO350 := am (Kd.V_below (pv HO350.out) hb); replace HO358 := am (Kd.V_below (pv HO358.out) hb); have HO367 := am (Kd.V_lower (Kd.V_mono (ok' := fun k_ => some k_ ≠ (.slice Ao8 y331.length co8 : Value).ownBlock ∧ k_ ≠ gb330 ∧ k_ ≠ gb352 ∧ k_ ≠ gb360) ho0 (fun k_ hk_ => ⟨Or.elim hk_ (fun hs_ => hs_.1) (fun hn_ => (Kd.fresh' (Kd.R_lt (pr HO_18.out)) k_ hn_)), Or.elim hk_ (fun hs_ => hs_.2.1) (fun hn_ => (Kd.freshB (g := gb330) (o := .cells #[.int .u64 x331000_1, .int .u64 x331001_1, .int .i64 x331002_1, .int .i64 x331003_1, .slice Ao41 x331004_1.length co41] 28 (0, 0)) (pk BK330.out) k_ hn_)), Or.elim hk_ (fun hs_ => hs_.2.2.1) (fun hn_ => (Kd.freshB (g := gb352) (o := .cells #[.int .u64 t344, .int .u64 t345, .int .i64 t346, .int .i64 t347, .slice Ao46 t348.length co46] 28 (0, 0)) (pk BK352.out) k_ hn_)), Or.elim hk_ (fun hs_ => hs_.2.2.2) (fun hn_ => (Kd.freshB (g := gb360) (o := .cells #[.int .u64 t353, .int .u64 t354, .int .i64 t355, .slice Ao54 t356.length co54] 40 (0, 0)) (pk BK360.out) k_ hn_))⟩)) (below_size (pb HB))); replace HO_18 := am (Kd.R_below (pr HO_18.out) hb); replace BK330 := am (blk_below (pk BK330.out) hb); replace BK352 := am (blk_below (pk BK352.out) hb); replace BK360 := am (blk_below (pk BK360.out) hb); replace HB := am (below_step (pb HB) hb); (try clear hb); (try clear hb2); (try clear hk); (try clear hi); (try clear ho0)) | ((with_reducible refine gate_dst (N := 11) rfl ?_); (try (refine gate_guard (by rfl) ?_; dsimp only)); refine be 11 #[.int .u64 0, .int .u64 0, .int .i64 0, .int .i64 0, .slice none 0 0] 28 ?_; intro gb369 hg w58 hbox hb; replace HO_18 := am (Kd.R_below (pr HO_18.out) hb); replace HO_331004 := am (Kd.V_below (Kd.V_elderB (pv HO_331004.out) gb369 (Nat.le_of_eq hg.symm)) hb); replace HO350 := am (Kd.V_below (Kd.V_elderB (pv HO350.out) gb369 (Nat.le_of_eq hg.symm)) hb); replace HO358 := am (Kd.V_below (Kd.V_elderB (pv HO358.out) gb369 (Nat.le_of_eq hg.symm)) hb); replace HO367 := am (Kd.V_below (Kd.V_elderB (pv HO367.out) gb369 (Nat.le_of_eq hg.symm)) hb); have BK369 := am (hbox); have GW369 := am ((pg hg HB : w.heap.size ≤ gb369)); have GE369 := am ((pg hg HB : w.heap.size ≤ gb369)); replace HB := am (below_step (pb HB) hb); obtain ⟨NB330_369, NB369_330, hnc59, hnb59⟩ := pm hg BK330; replace BK330 := am (blk_below (pk BK330.out) hb); obtain ⟨NB352_369, NB369_352, hnc60, hnb60⟩ := pm hg BK352; replace BK352 := am (blk_below (pk BK352.out) hb); obtain ⟨NB360_369, NB369_360, hnc61, hnb61⟩ := pm hg BK360; replace BK360 := am (blk_below (pk BK360.out) hb); clear hb hbox hg; obtain ⟨hcz62_0, hcz62_1, hcz62_2, hcz62_3, hcz62_4, hfz62_0, hfz62_1, hfz62_2, hfz62_3, hfz62_4⟩ := g5 BK369; obtain ⟨Ao63, co63, eo63⟩ := Kd.V_slice HO367.out; subst eo63; obtain ⟨hcz64_0, hcz64_1, hcz64_2, hcz64_3, hcz64_4, hfz64_0, hfz64_1, hfz64_2, hfz64_3, hfz64_4⟩ := g5 BK330; obtain ⟨hcz65_0, hcz65_1, hcz65_2, hcz65_3, hcz65_4, hfz65_0, hfz65_1, hfz65_2, hfz65_3, hfz65_4⟩ := g5 BK352) | (go_at_call 20; (with_reducible refine (strata_Right.calls k1 t344 t345 t346 t347 _ _ t348 true _ ?side1 ?side2 A38.out).mono ?_); (case side1 => refine (Kd.V_reads' (e := 42) (base := w.heap.size) (ok := fun k_ => ((some k_ ≠ (.slice Ao8 y331.length co8 : Value).ownBlock ∧ (k_ ≠ gb330 ∧ (k_ ≠ gb352 ∧ k_ ≠ gb360))) ∧ k_ ≠ gb369)) (n := t348.length) (c := co46) ?_).2.2; exact (pv ((Kd.V_mono (Kd.V_far (p := ⟨gb369, 4, none⟩) (Kd.V_far (p := ⟨gb369, 3, none⟩) (Kd.V_far (p := ⟨gb369, 2, none⟩) (Kd.V_far (p := ⟨gb369, 1, none⟩) (Kd.V_far (p := ⟨gb369, 0, none⟩) (Kd.V_mono HO350.out (fun k_ hk => (⟨hk, hk.2⟩ : _ ∧ k_ ≠ gb369))) (fun _ hk => hk.2) (.int .u64 t361)) (fun _ hk => hk.2) (.int .u64 t362)) (fun _ hk => hk.2) (.int .i64 t363)) (fun _ hk => hk.2) (.int .i64 t364)) (fun _ hk => hk.2) (.slice Ao63 t365.length co63)) (fun _ h_ => h_.1))))); (case side2 => exact (Kd.V_reads' HO350.out).2.1); rintro e w66 ⟨rfl, hb⟩; replace HO_18 := am (Kd.R_below (pr ((Kd.R_mono (Kd.R_far (p := ⟨gb369, 4, none⟩) (Kd.R_far (p := ⟨gb369, 3, none⟩) (Kd.R_far (p := ⟨gb369, 2, none⟩) (Kd.R_far (p := ⟨gb369, 1, none⟩) (Kd.R_far (p := ⟨gb369, 0, none⟩) (Kd.R_types HO_18.out BK369.out (by decide)) (fun _ hk => hk.2) (.int .u64 t361)) (fun _ hk => hk.2) (.int .u64 t362)) (fun _ hk => hk.2) (.int .i64 t363)) (fun _ hk => hk.2) (.int .i64 t364)) (fun _ hk => hk.2) (.slice Ao63 t365.length co63)) (fun _ h_ => h_.1)))) hb); replace HO_331004 := am (Kd.V_below (pv ((Kd.V_mono (Kd.V_far (p := ⟨gb369, 4, none⟩) (Kd.V_far (p := ⟨gb369, 3, none⟩) (Kd.V_far (p := ⟨gb369, 2, none⟩) (Kd.V_far (p := ⟨gb369, 1, none⟩) (Kd.V_far (p := ⟨gb369, 0, none⟩) (Kd.V_mono HO_331004.out (fun k_ hk => (⟨hk, hk.2⟩ : _ ∧ k_ ≠ gb369))) (fun _ hk => hk.2) (.int .u64 t361)) (fun _ hk => hk.2) (.int .u64 t362)) (fun _ hk => hk.2) (.int .i64 t363)) (fun _ hk => hk.2) (.int .i64 t364)) (fun _ hk => hk.2) (.slice Ao63 t365.length co63)) (fun _ h_ => h_.1)))) hb); replace HO350 := am (Kd.V_below (pv ((Kd.V_mono (Kd.V_far (p := ⟨gb369, 4, none⟩) (Kd.V_far (p := ⟨gb369, 3, none⟩) (Kd.V_far (p := ⟨gb369, 2, none⟩) (Kd.V_far (p := ⟨gb369, 1, none⟩) (Kd.V_far (p := ⟨gb369, 0, none⟩) (Kd.V_mono HO350.out (fun k_ hk => (⟨hk, hk.2⟩ : _ ∧ k_ ≠ gb369))) (fun _ hk => hk.2) (.int .u64 t361)) (fun _ hk => hk.2) (.int .u64 t362)) (fun _ hk => hk.2) (.int .i64 t363)) (fun _ hk => hk.2) (.int .i64 t364)) (fun _ hk => hk.2) (.slice Ao63 t365.length co63)) (fun _ h_ => h_.1)))) hb); replace HO358 := am (Kd.V_below (pv ((Kd.V_mono (Kd.V_far (p := ⟨gb369, 4, none⟩) (Kd.V_far (p := ⟨gb369, 3, none⟩) (Kd.V_far (p := ⟨gb369, 2, none⟩) (Kd.V_far (p := ⟨gb369, 1, none⟩) (Kd.V_far (p := ⟨gb369, 0, none⟩) (Kd.V_mono HO358.out (fun k_ hk => (⟨hk, hk.2⟩ : _ ∧ k_ ≠ gb369))) (fun _ hk => hk.2) (.int .u64 t361)) (fun _ hk => hk.2) (.int .u64 t362)) (fun _ hk => hk.2) (.int .i64 t363)) (fun _ hk => hk.2) (.int .i64 t364)) (fun _ hk => hk.2) (.slice Ao63 t365.length co63)) (fun _ h_ => h_.1)))) hb); replace HO367 := am (Kd.V_below (pv ((Kd.V_mono (Kd.V_far (p := ⟨gb369, 4, none⟩) (Kd.V_far (p := ⟨gb369, 3, none⟩) (Kd.V_far (p := ⟨gb369, 2, none⟩) (Kd.V_far (p := ⟨gb369, 1, none⟩) (Kd.V_far (p := ⟨gb369, 0, none⟩) (Kd.V_mono HO367.out (fun k_ hk => (⟨hk, hk.2⟩ : _ ∧ k_ ≠ gb369))) (fun _ hk => hk.2) (.int .u64 t361)) (fun _ hk => hk.2) (.int .u64 t362)) (fun _ hk => hk.2) (.int .i64 t363)) (fun _ hk => hk.2) (.int .i64 t364)) (fun _ hk => hk.2) (.slice Ao63 t365.length co63)) (fun _ h_ => h_.1)))) hb); replace BK330 := am (blk_below (g := gb330) (o := .cells #[.int .u64 x331000_1, .int .u64 x331001_1, .int .i64 x331002_1, .int .i64 x331003_1, .slice Ao41 x331004_1.length co41] 28 (0, 0)) (by refine pk ?_; refine blk_far ?_ NB330_369.out _; refine pk ?_; refine blk_far ?_ NB330_369.out _; refine pk ?_; refine blk_far ?_ NB330_369.out _; refine pk ?_; refine blk_far ?_ NB330_369.out _; refine pk ?_; refine blk_far ?_ NB330_369.out _; refine pk ?_; exact BK330.out) hb); replace BK352 := am (blk_below (g := gb352) (o := .cells #[.int .u64 t344, .int .u64 t345, .int .i64 t346, .int .i64 t347, .slice Ao46 t348.length co46] 28 (0, 0)) (by refine pk ?_; refine blk_far ?_ NB352_369.out _; refine pk ?_; refine blk_far ?_ NB352_369.out _; refine pk ?_; refine blk_far ?_ NB352_369.out _; refine pk ?_; refine blk_far ?_ NB352_369.out _; refine pk ?_; refine blk_far ?_ NB352_369.out _; refine pk ?_; exact BK352.out) hb); replace BK360 := am (blk_below (g := gb360) (o := .cells #[.int .u64 t353, .int .u64 t354, .int .i64 t355, .slice Ao54 t356.length co54] 40 (0, 0)) (by refine pk ?_; refine blk_far ?_ NB360_369.out _; refine pk ?_; refine blk_far ?_ NB360_369.out _; refine pk ?_; refine blk_far ?_ NB360_369.out _; refine pk ?_; refine blk_far ?_ NB360_369.out _; refine pk ?_; refine blk_far ?_ NB360_369.out _; refine pk ?_; exact BK360.out) hb); replace BK369 := am (blk_below (g := gb369) (o := .cells #[.int .u64 t361, .int .u64 t362, .int .i64 t363, .int .i64 t364, .slice Ao63 t365.length co63] 28 (0, 0)) (by refine pk ?_; refine blk_put (cs := #[.int .u64 t361, .int .u64 t362, .int .i64 t363, .int .i64 t364, .slice none 0 0]) ?_ 4 _ rfl; refine pk ?_; refine blk_put (cs := #[.int .u64 t361, .int .u64 t362, .int .i64 t363, .int .i64 0, .slice none 0 0]) ?_ 3 _ rfl; refine pk ?_; refine blk_put (cs := #[.int .u64 t361, .int .u64 t362, .int .i64 0, .int .i64 0, .slice none 0 0]) ?_ 2 _ rfl; refine pk ?_; refine blk_put (cs := #[.int .u64 t361, .int .u64 0, .int .i64 0, .int .i64 0, .slice none 0 0]) ?_ 1 _ rfl; refine pk ?_; refine blk_put (cs := #[.int .u64 0, .int .u64 0, .int .i64 0, .int .i64 0, .slice none 0 0]) ?_ 0 _ rfl; refine pk ?_; exact BK369.out) hb); replace HB := am (below_step (pb HB) hb); (try clear hb); (try clear hb2); (try clear hk); (try clear hi)))
           go_ret
           exact ⟨by first | rfl | (simp [errW_none, errW_some] <;> rfl) | (simp [*, errW_none, errW_some] <;> rfl), pb HB⟩
          ·replace c39 := Bool.eq_false_iff.mpr c39
           subst c39
           have H1 : (some false) = some r := by rw [if_neg (show ¬ (false = true) by decide)] at H; exact H
           exact Bool.noConfusion ((Option.some.inj H1).trans hrT.out)
         ·rw [if_neg c37] at H
          exact Bool.noConfusion ((Option.some.inj H).trans hrT.out)
        ·rw [if_neg c36] at H
         exact Bool.noConfusion ((Option.some.inj H).trans hrT.out)
       ·rw [if_neg c35] at H
        exact Bool.noConfusion ((Option.some.inj H).trans hrT.out)
      ·rw [if_neg c34] at H
       exact Bool.noConfusion ((Option.some.inj H).trans hrT.out)
     ·rw [if_neg c33] at H
      exact Bool.noConfusion ((Option.some.inj H).trans hrT.out)
    ·rw [if_neg c32] at H
     exact Bool.noConfusion ((Option.some.inj H).trans hrT.out)
theorem samphirelaw21_awake.atK : samphirelaw21_awake.f 60 = some true := by kernel_rfl
theorem samphirelaw21_awake.up {t : Bool} : ∀ (d k : Nat), samphirelaw21_awake.f k = some t → samphirelaw21_awake.f (k + d) = some t
 | 0, _, h => h
 | d + 1, k, h => samphirelaw21_awake.mono (k + d) _ (samphirelaw21_awake.up d k h)
theorem samphirelaw21_awake.true_ (k : Nat) (t : Bool) (h : samphirelaw21_awake.f k = some t) : t = true := by
 have h1 := samphirelaw21_awake.up 60 k h
 have h2 := samphirelaw21_awake.up k 60 samphirelaw21_awake.atK
 rw [Nat.add_comm] at h2
 exact Option.some.inj (h1.symm.trans h2)

end Go.Proofs.Ytpbiobbddgipkaa.H
