import Derived.Test.YtmfffbafldbihaaHx0
import Derived.Test.YtmfffbafldbihaaHx10
import Derived.Test.YtmfffbafldbihaaHx12
import Derived.Test.YtmfffbafldbihaaHx13
namespace Go.Proofs.Ytmfffbafldbihaa.H
open Go.RowKit Go.Proofs.YtmfffbafldbihaaW.PrintWords Go.Proofs.YtmfffbafldbihaaW.PrintLast Go.Proofs.YtmfffbafldbihaaW.PrintMore Go.Proofs.YtmfffbafldbihaaW.Sq
attribute [local go_sem] max2_int min2_int max_two min_two max_three min_three max_four min_four
set_option linter.unusedVariables false
set_option linter.unusedSimpArgs false

mutual
def l14_awake.l0 : Nat → Int → List ByteArray → Int → Int → Int → Int → Int → List (S62) → Option (Bool)
 | 0, _, _, _, _, _, _, _, _ => none
 | k + 1, x2, x20, x21, x22, x240000, x240001, x240002, x240003 => if x22 < x21 then (if 0 ≤ x22 then (if x22 < (x20.length : Int) then ((bottom_Add.f k x240000 x240001 x240002 x240003 (rdOf ByteArray.empty x20 x22) 5).bind fun bt244 => (if bt244.2.2.2.2 = 0 then (l14_awake.l0 k x2 x20 x21 (wrap64 (x22 + 1)) bt244.1 bt244.2.1 bt244.2.2.1 bt244.2.2.2.1) else (some false))) else (none)) else (none)) else ((bottom_Merge.f k x240000 x240001 x240002 x240003 x240000 x240001 x240002 x240003).bind fun bt252 => ((bottom_Cut.f k x240000 x240001 x240002 x240003 1).bind fun bt260 => (if (x240003.length : Int) = 3 then (l14_awake.j1 k x2 bt252.2.2.2.2 bt260.2.2.2.2 ((bt252.2.2.2.1.length : Int) != 3) x240000 x240001 x240002 x240003 bt252.1 bt252.2.1 bt252.2.2.1 bt252.2.2.2.1 bt260.1 bt260.2.1 bt260.2.2.1 bt260.2.2.2.1) else (l14_awake.j1 k x2 bt252.2.2.2.2 bt260.2.2.2.2 true x240000 x240001 x240002 x240003 bt252.1 bt252.2.1 bt252.2.2.1 bt252.2.2.2.1 bt260.1 bt260.2.1 bt260.2.2.1 bt260.2.2.2.1))))
def l14_awake.j1 : Nat → Int → Int → Int → Bool → Int → Int → Int → List (S62) → Int → Int → Int → List (S62) → Int → Int → Int → List (S62) → Option (Bool)
 | 0, _, _, _, _, _, _, _, _, _, _, _, _, _, _, _, _ => none
 | k + 1, x2, x8, x10, x56, x240000, x240001, x240002, x240003, x260000, x260001, x260002, x260003, x268000, x268001, x268002, x268003 => if x56 = true then (some false) else ((bottom_Threshold.f k x240000 x240001 x240002 x240003).bind fun bt268 => ((bottom_Add.f k x240000 x240001 x240002 x240003 (⟨#[97]⟩ : ByteArray) 0).bind fun bt270 => (if x2 = 0 then (if x8 = 0 then (if x10 = 0 then (if (x268003.length : Int) = 2 then (if 0 < (x260003.length : Int) then (if 0 < (x240003.length : Int) then (if ((rd_T62 x260003 0).f1) = ((rd_T62 x240003 0).f1) then (if ((rd_T62 x260003 0).f2.f1) = (IntKind.u64.wrap (2 * ((rd_T62 x240003 0).f2.f1))) then (if ((rd_T62 x240003 0).f2.f1) ≥ 5 then (if bt268.2 = true then (if bt270.2.2.2.2 = 7 then ((bottom_Right.f k x260000 x260001 x260002 x260003).bind fun t283 => (some t283)) else (some false)) else (some false)) else (some false)) else (some false)) else (some false)) else (none)) else (none)) else (some false)) else (some false)) else (some false)) else (some false))))
end
def l14_awake.f (k : Nat)  : Option (Bool) := (bottom_New.f 3 0 2).bind fun bt232 => ((some (([(⟨#[97]⟩ : ByteArray), (⟨#[98]⟩ : ByteArray), (⟨#[99]⟩ : ByteArray), (⟨#[100]⟩ : ByteArray), (⟨#[97]⟩ : ByteArray)] : List ByteArray) : List ByteArray)).bind fun y240 => (l14_awake.l0 k bt232.2.2.2.2 y240 (y240.length : Int) 0 bt232.1 bt232.2.1 bt232.2.2.1 bt232.2.2.2.1))
theorem l14_awake.mono_l : ∀ k, (∀ y0 y1 y2 y3 y4 y5 y6 y7, LeO (l14_awake.l0 k y0 y1 y2 y3 y4 y5 y6 y7) (l14_awake.l0 (k + 1) y0 y1 y2 y3 y4 y5 y6 y7)) ∧ (∀ y0 y1 y2 y3 y4 y5 y6 y7 y8 y9 y10 y11 y12 y13 y14 y15, LeO (l14_awake.j1 k y0 y1 y2 y3 y4 y5 y6 y7 y8 y9 y10 y11 y12 y13 y14 y15) (l14_awake.j1 (k + 1) y0 y1 y2 y3 y4 y5 y6 y7 y8 y9 y10 y11 y12 y13 y14 y15))
 | 0 => ⟨fun _ _ _ _ _ _ _ _ r h => by simp [l14_awake.l0] at h, fun _ _ _ _ _ _ _ _ _ _ _ _ _ _ _ _ r h => by simp [l14_awake.j1] at h⟩
 | k + 1 => by
  obtain ⟨ih0, ih1⟩ := l14_awake.mono_l k
  refine ⟨?_, ?_⟩
  ·intro y0 y1 y2 y3 y4 y5 y6 y7
   unfold l14_awake.l0
   repeat' first
   | (with_reducible exact ih0 _ _ _ _ _ _ _ _)
   | (with_reducible exact ih1 _ _ _ _ _ _ _ _ _ _ _ _ _ _ _ _)
   | (with_reducible exact bottom_Add.mono _ _ _ _ _ _ _)
   | (with_reducible exact bottom_Cut.mono _ _ _ _ _ _)
   | (with_reducible exact bottom_Merge.mono _ _ _ _ _ _ _ _ _)
   | (with_reducible exact bottom_Right.mono _ _ _ _ _)
   | (with_reducible exact bottom_Threshold.mono _ _ _ _ _)
   | (with_reducible exact LeO.refl _)
   | (with_reducible exact LeO.none _)
   | (with_reducible refine LeO.ite ?_ ?_)
   | (with_reducible refine LeO.bind ?_ (fun _ => ?_))
  ·intro y0 y1 y2 y3 y4 y5 y6 y7 y8 y9 y10 y11 y12 y13 y14 y15
   unfold l14_awake.j1
   repeat' first
   | (with_reducible exact ih0 _ _ _ _ _ _ _ _)
   | (with_reducible exact ih1 _ _ _ _ _ _ _ _ _ _ _ _ _ _ _ _)
   | (with_reducible exact bottom_Add.mono _ _ _ _ _ _ _)
   | (with_reducible exact bottom_Cut.mono _ _ _ _ _ _)
   | (with_reducible exact bottom_Merge.mono _ _ _ _ _ _ _ _ _)
   | (with_reducible exact bottom_Right.mono _ _ _ _ _)
   | (with_reducible exact bottom_Threshold.mono _ _ _ _ _)
   | (with_reducible exact LeO.refl _)
   | (with_reducible exact LeO.none _)
   | (with_reducible refine LeO.ite ?_ ?_)
   | (with_reducible refine LeO.bind ?_ (fun _ => ?_))
theorem l14_awake.mono : ∀ k, LeO (l14_awake.f k ) (l14_awake.f (k + 1) ) := by
 intro  k
 obtain ⟨ih0, ih1⟩ := l14_awake.mono_l k
 unfold l14_awake.f
 repeat' first
   | (with_reducible exact ih0 _ _ _ _ _ _ _ _)
   | (with_reducible exact ih1 _ _ _ _ _ _ _ _ _ _ _ _ _ _ _ _)
   | (with_reducible exact bottom_Add.mono _ _ _ _ _ _ _)
   | (with_reducible exact bottom_Cut.mono _ _ _ _ _ _)
   | (with_reducible exact bottom_Merge.mono _ _ _ _ _ _ _ _ _)
   | (with_reducible exact bottom_Right.mono _ _ _ _ _)
   | (with_reducible exact bottom_Threshold.mono _ _ _ _ _)
   | (with_reducible exact LeO.refl _)
   | (with_reducible exact LeO.none _)
   | (with_reducible refine LeO.ite ?_ ?_)
   | (with_reducible refine LeO.bind ?_ (fun _ => ?_))
def l14_awake.T16 : Bool × List (List Nat × List Nat) := (true, [([], []), ([0], [0]), ([1], [1]), ([2], [2]), ([3, 2], [2, 3]), ([2, 4], [2, 4]), ([5, 2], [5]), ([6], [6]), ([7, 6], [6, 7]), ([6, 8], [6, 8]), ([9, 6], [9]), ([10], [10]), ([11, 10], [10, 11]), ([12, 10], [10, 12]), ([13, 10], [10, 13]), ([10, 14], [10, 14]), ([15, 10], [15]), ([16], [16]), ([17, 16], [16, 17]), ([18, 16], [16, 18]), ([19, 16], [16, 19]), ([20, 16], [16, 20]), ([16], [16]), ([22, 16], [16, 22]), ([23, 16], [16, 23]), ([24, 16], [16, 24]), ([25, 16], [16, 25]), ([21, 26, 16], [16, 21, 26]), ([16, 27], [16, 27]), ([28, 16], [28]), ([29], [29]), ([30, 29], [29, 30]), ([31, 29], [29, 31]), ([32, 29], [29, 32]), ([33, 29], [29, 33]), ([34, 29], [29, 34]), ([29], [29]), ([36, 29], [29, 36]), ([37, 29], [29, 37]), ([38, 29], [29, 38]), ([39, 29], [29, 39]), ([40, 29], [29, 40]), ([41, 29], [29, 41]), ([35, 42, 29], [29, 35, 42]), ([29, 43], [29, 43]), ([44, 29], [44]), ([45], [45]), ([46, 45], [45, 46]), ([47, 45], [45, 47]), ([48, 45], [45, 48]), ([49, 45], [45, 49]), ([50, 45], [45, 50]), ([51, 45], [45, 51]), ([45, 52], [45, 52]), ([53, 45], [53]), ([54], [54]), ([54, 55], [54, 55]), ([56, 54], [56]), ([57], [57]), ([58, 57], [57, 58]), ([57, 59], [57, 59]), ([60, 57], [60]), ([61], [61]), ([62, 61, 61], [61, 62]), ([61, 63], [61, 63]), ([64, 63, 0, 1, 2, 3, 4, 5, 6, 7, 8, 9, 10, 11, 12, 13, 14, 15, 16, 17, 18, 19, 20, 21, 22, 23, 24, 25, 26, 27, 28, 29, 30, 31, 32, 33, 34, 35, 36, 37, 38, 39, 40, 41, 42, 43, 44, 45, 46, 47, 48, 49, 50, 51, 52, 53, 54, 55, 56, 57, 58, 59, 60, 61, 62, 63, 64], [64])])
def l14_awake.B16 : List Nat := [0, 1, 3, 7, 15, 31, 63, 127, 255, 511, 1023, 2047, 4095, 8191, 16383, 32767, 65535, 131071, 262143, 524287, 1048575, 2097151, 131071, 4325375, 12713983, 29491199, 63045631, 134217727, 268435455, 536870911, 1073741823, 2147483647, 4294967295, 8589934591, 17179869183, 34359738367, 1073741823, 69793218559, 207232172031, 482110078975, 1031865892863, 2131377520639, 4330400776191, 8796093022207, 17592186044415, 35184372088831, 70368744177663, 140737488355327, 281474976710655, 562949953421311, 1125899906842623, 2251799813685247, 4503599627370495, 9007199254740991, 18014398509481983, 36028797018963967, 72057594037927935, 144115188075855871, 288230376151711743, 576460752303423487, 1152921504606846975, 2305843009213693951, 4611686018427387903, 9223372036854775807, 18446744073709551615, 36893488147419103231]
theorem l14_awake.tab16 : rtab .any (opsOf Try.f11 16) = l14_awake.T16 := by kernel_rfl
theorem l14_awake.bits16 : waitsOk l14_awake.T16.2 l14_awake.B16 = true := by kernel_rfl
set_option maxHeartbeats 8000000 in
set_option maxRecDepth 100000 in
theorem l14_awake.calls (k : Nat)  (r : Bool) (hrT : Aside0 (r = true)) (w : World) (h : l14_awake.f k  = some r) :
  Calls Try.prog 11 #[] w fun e w' => e = .returned (.bool r) ∧ Below w.heap.size w w' := by
 have hu24 := Try.underlying24
 have hu27 := Try.underlying27
 have HB := am (Below.refl w.heap.size w)
 have H : ((bottom_New.f 3 0 2).bind fun bt232 => ((some (([(⟨#[97]⟩ : ByteArray), (⟨#[98]⟩ : ByteArray), (⟨#[99]⟩ : ByteArray), (⟨#[100]⟩ : ByteArray), (⟨#[97]⟩ : ByteArray)] : List ByteArray) : List ByteArray)).bind fun y240 => (l14_awake.l0 k bt232.2.2.2.2 y240 (y240.length : Int) 0 bt232.1 bt232.2.1 bt232.2.2.1 bt232.2.2.2.1))) = some r := h
 clear h
 replace H := Option.bind_eq_some_iff.mp H
 obtain ⟨⟨t232, t233, t234, t235, t238⟩, A10, H⟩ := H
 try dsimp only at H
 have A1 := am A10
 clear A10
 obtain ⟨y240, hy240⟩ : ∃ y_ : List ByteArray, y_ = (([(⟨#[97]⟩ : ByteArray), (⟨#[98]⟩ : ByteArray), (⟨#[99]⟩ : ByteArray), (⟨#[100]⟩ : ByteArray), (⟨#[97]⟩ : ByteArray)] : List ByteArray)) := ⟨_, rfl⟩
 replace H : (l14_awake.l0 k t238 y240 (y240.length : Int) 0 t232 t233 t234 t235) = some r := by first | (rw [hy240]; with_reducible exact H) | (have H2_ := (Option.bind_some _ _).symm.trans H; rw [hy240]; with_reducible exact H2_) | (have H2_ := (Option.bind_some _ _).symm.trans H; with_reducible exact H2_) | with_reducible exact H | (rw [hy240]; exact H) | exact H
 have Ny240 := am hy240
 clear hy240
 have H' := am H
 clear H
 go_enter Try.func11, Try.ntmps11
 go_wp2_with (first | ((with_reducible refine gate_callee (f := 16) rfl ?_); refine gl (some 17) Try.func16 #[.agg #[.int .u64 3, .int .u64 0], .int .i64 2] ?_; (with_reducible refine (bottom_New.calls 3 0 2 t232 t233 t234 t235 t238 _ A1.out).mono ?_); rintro e w2 ⟨v236, rfl, ho0, hb⟩; refine ⟨_, rfl, ?_⟩; have HO237 := am (Kd.V_lower (Kd.V_mono (ok' := fun k_ => True) ho0 (fun k_ hk_ => trivial)) (below_size (pb HB))); replace HB := am (below_step (pb HB) hb); (try clear hb); (try clear hb2); (try clear hk); (try clear hi); (try clear ho0)) | ((with_reducible refine gate_dst (N := 1) rfl ?_); (try (refine gate_guard (by rfl) ?_; dsimp only)); refine be 1 #[.int .u64 0, .int .u64 0, .int .i64 0, .slice none 0 0] 27 ?_; intro gb239 hg w3 hbox hb; have n0_ := am (Kd.V_below (Kd.V_elderB (pv HO237.out) gb239 (Nat.le_of_eq hg.symm)) hb); have n1_ := am (below_step (pb HB) hb); have n2_ := am (hbox); have n3_ := am ((pg hg HB : w.heap.size ≤ gb239)); have n4_ := am ((pg hg HB : w.heap.size ≤ gb239)); clear HO237; clear HB; have HO237 := n0_; have HB := n1_; have BK239 := n2_; have GW239 := n3_; have GE239 := n4_; clear n0_ n1_ n2_ n3_ n4_; clear hb hbox hg; have hcz4_0 := ce BK239 0; have hcz4_1 := ce BK239 1; have hcz4_2 := ce BK239 2; have hcz4_3 := ce BK239 3; have hfz4_0 := fz BK239 0; have hfz4_1 := fz BK239 1; have hfz4_2 := fz BK239 2; have hfz4_3 := fz BK239 3; obtain ⟨Ao5, co5, eo5⟩ := Kd.V_slice HO237.out; subst eo5) | ((with_reducible refine gate_dst (N := 20) rfl ?_); (try (refine gate_guard (by rfl) ?_; dsimp only)); refine Kd.R_lit Kd.string _ 9 ?hg (N := 20) ?hd (xs := ([(⟨#[97]⟩ : ByteArray), (⟨#[98]⟩ : ByteArray), (⟨#[99]⟩ : ByteArray), (⟨#[100]⟩ : ByteArray), (⟨#[97]⟩ : ByteArray)] : List ByteArray)) (inner := [.string (⟨#[97]⟩ : ByteArray), .string (⟨#[98]⟩ : ByteArray), .string (⟨#[99]⟩ : ByteArray), .string (⟨#[100]⟩ : ByteArray), .string (⟨#[97]⟩ : ByteArray)]) (ok := fun _ => True) (okp := fun _ => True) ?hr ?hp (fun _ hk => hk) trivial (Below.refl _ _) (Nat.le_refl _) (by simp) ?_; (case hd => rfl); (case hg => rfl); (case hr => first | (go_simp; done) | (go_simp; rfl)); (case hp => exact (Reps.one (show Kd.M Kd.string _ _ _ (⟨#[97]⟩ : ByteArray) [.string (⟨#[97]⟩ : ByteArray)] from rfl) (Reps.one (show Kd.M Kd.string _ _ _ (⟨#[98]⟩ : ByteArray) [.string (⟨#[98]⟩ : ByteArray)] from rfl) (Reps.one (show Kd.M Kd.string _ _ _ (⟨#[99]⟩ : ByteArray) [.string (⟨#[99]⟩ : ByteArray)] from rfl) (Reps.one (show Kd.M Kd.string _ _ _ (⟨#[100]⟩ : ByteArray) [.string (⟨#[100]⟩ : ByteArray)] from rfl) (Reps.one (show Kd.M Kd.string _ _ _ (⟨#[97]⟩ : ByteArray) [.string (⟨#[97]⟩ : ByteArray)] from rfl) (Reps.none _ _))))))); intro v241 w6 ho7 hb hg_ hnew_; clear hg_ hnew_; (first | rw [← Ny240.out] at ho7 | (simp only [Int.reduceToNat] at ho7; rw [← Ny240.out] at ho7)); replace HO237 := am (Kd.V_elder' (pv ((Kd.V_mono (Kd.V_far (p := ⟨gb239, 3, none⟩) (Kd.V_far (p := ⟨gb239, 2, none⟩) (Kd.V_far (p := ⟨gb239, 1, none⟩) (Kd.V_far (p := ⟨gb239, 0, none⟩) (Kd.V_mono HO237.out (fun k_ hk => (⟨hk, hk.2⟩ : _ ∧ k_ ≠ gb239))) (fun _ hk => hk.2) (.int .u64 t232)) (fun _ hk => hk.2) (.int .u64 t233)) (fun _ hk => hk.2) (.int .i64 t234)) (fun _ hk => hk.2) (.slice Ao5 t235.length co5)) (fun _ h_ => h_.1)))) (Kd.R_base ho7) hb); have HO242 := am (Kd.R_lower ho7 (below_size (pb HB))); replace BK239 := am (blk_below (g := gb239) (o := .cells #[.int .u64 t232, .int .u64 t233, .int .i64 t234, .slice Ao5 t235.length co5] 27 (0, 0)) (by refine pk ?_; refine blk_put (cs := #[.int .u64 t232, .int .u64 t233, .int .i64 t234, .slice none 0 0]) ?_ 3 _ rfl; refine pk ?_; refine blk_put (cs := #[.int .u64 t232, .int .u64 t233, .int .i64 0, .slice none 0 0]) ?_ 2 _ rfl; refine pk ?_; refine blk_put (cs := #[.int .u64 t232, .int .u64 0, .int .i64 0, .slice none 0 0]) ?_ 1 _ rfl; refine pk ?_; refine blk_put (cs := #[.int .u64 0, .int .u64 0, .int .i64 0, .slice none 0 0]) ?_ 0 _ rfl; refine pk ?_; exact BK239.out) hb); replace HB := am (below_step (pb HB) hb); clear hb ho7; obtain ⟨Ao8, co8, eo8⟩ := Kd.R_slice HO242.out; subst eo8))
 go_loopg [22] k (fun kq v22 w' => ∃ (x22_1 : Int) (x240000_1 : Int) (x240001_1 : Int) (x240002_1 : Int) (x240003_1 : List (S62)) (u240003 : Value), v22 = .int .i64 x22_1 ∧ Aside0 (l14_awake.l0 kq t238 y240 (y240.length : Int) x22_1 x240000_1 x240001_1 x240002_1 x240003_1 = some r) ∧ Aside0 (kq ≤ k) ∧ Aside0 (Kd.R Kd.string 9 w' w.heap.size (fun _ => True) (.slice Ao8 y240.length co8) y240) ∧ Aside0 (Kd.V k62 62 w' w.heap.size (fun k_ => some k_ ≠ ((.slice Ao8 y240.length co8) : Value).ownBlock ∧ k_ ≠ gb239) u240003 x240003_1) ∧ Aside0 (w'.heap[gb239]? = some (.cells #[.int .u64 x240000_1, .int .u64 x240001_1, .int .i64 x240002_1, u240003] 27 (0, 0))) ∧ Aside0 (Below w.heap.size w w'))
 case atStart => exact ⟨(0), (t232), (t233), (t234), (t235), (.slice Ao5 t235.length co5), (by first | rfl | (simp; done) | (simp [*]; done)), H', ⟨Nat.le_refl _⟩, ⟨pr HO242.out⟩, ⟨by refine pv ?_; exact Kd.V_mono HO237.out (fun _ hk => ⟨hk.2, hk.1.2⟩)⟩, ⟨pk BK239.out⟩, ⟨pb HB⟩⟩
 case round =>
  clear H'
  try clear c1
  try clear p2
  try clear hcz4_0 hcz4_1 hcz4_2 hcz4_3 hfz4_0 hfz4_1 hfz4_2 hfz4_3
  obtain ⟨x22_1, x240000_1, x240001_1, x240002_1, x240003_1, u240003, rfl, HA, HK1, HO_20, HO_240003, BK239, HB⟩ := hrel
  cases gk with
  | zero => exact absurd HA.out (by simp [l14_awake.l0])
  | succ k1 =>
   have H := HA.out
   clear HA
   simp only [l14_awake.l0] at H
   by_cases c9 : x22_1 < (y240.length : Int)
   ·rw [if_pos c9] at H
    have c9b0 : decide (x22_1 < (y240.length : Int)) = true := decide_eq_true c9
    clear c9
    by_cases c10 : 0 ≤ x22_1
    ·rw [if_pos c10] at H
     have c10b0 : decide (0 ≤ x22_1) = true := decide_eq_true c10
     clear c10
     by_cases c11 : x22_1 < (y240.length : Int)
     ·rw [if_pos c11] at H
      have c11b0 : decide (x22_1 < (y240.length : Int)) = true := decide_eq_true c11
      clear c11
      replace H := Option.bind_eq_some_iff.mp H
      obtain ⟨⟨t244, t245, t246, t247, t250⟩, A120, H⟩ := H
      try dsimp only at H
      have A12 := am A120
      clear A120
      by_cases c13 : t250 = 0
      ·rw [if_pos c13] at H
       have c13b0 : (t250 == 0) = true := beq_iff_eq.mpr c13
       have c13b1 : (t250 != 0) = false := bne_eq_false_iff_eq.mpr c13
       clear c13
       have H' := am H
       clear H
       have p243 : 0 ≤ (x22_1 : Int) := of_decide_eq_true (by first | (with_reducible assumption) | assumption)
       have q243 : x22_1 < (y240.length : Int) := of_decide_eq_true (by first | (with_reducible assumption) | assumption)
       obtain ⟨ad243, e243, hx243_0⟩ := Kd.at_string (Kd.R_reads' HO_20.out).2.2 x22_1 p243 q243
       cases e243
       replace p243 := eq_true p243
       replace q243 := eq_true q243
       have hcz14_0 := ce BK239 0
       have hcz14_1 := ce BK239 1
       have hcz14_2 := ce BK239 2
       have hcz14_3 := ce BK239 3
       have hfz14_0 := fz BK239 0
       have hfz14_1 := fz BK239 1
       have hfz14_2 := fz BK239 2
       have hfz14_3 := fz BK239 3
       obtain ⟨Ao15, co15, eo15⟩ := Kd.V_slice HO_240003.out
       subst eo15
       go_wp2_with (first | ((with_reducible refine gate_callee (f := 17) rfl ?_); refine gl (some 29) Try.func17 #[.agg #[.int .u64 x240000_1, .int .u64 x240001_1, .int .i64 x240002_1, .slice Ao15 x240003_1.length co15], .string (rdOf ByteArray.empty y240 x22_1), .int .u64 5] ?_; (with_reducible refine (bottom_Add.calls k1 x240000_1 x240001_1 x240002_1 (fun k_ => (some k_ ≠ (.slice (some ad243) y240.length co8 : Value).ownBlock ∧ k_ ≠ gb239)) _ _ x240003_1 (rdOf ByteArray.empty y240 x22_1) 5 t244 t245 t246 t247 t250 _ ?side1 A12.out).mono ?_); (case side1 => exact HO_240003.out); rintro e w16 ⟨v248, rfl, ho0, hb⟩; refine ⟨_, rfl, ?_⟩; have n0_ := am (Kd.R_below (pr HO_20.out) hb); have n1_ := am (Kd.V_below (pv HO_240003.out) hb); have n2_ := am (Kd.V_lower (Kd.V_mono (ok' := fun k_ => some k_ ≠ (.slice (some ad243) y240.length co8 : Value).ownBlock ∧ k_ ≠ gb239) ho0 (fun k_ hk_ => ⟨Or.elim hk_ (fun hs_ => hs_.1) (fun hn_ => (Kd.fresh' (Kd.R_lt (pr HO_20.out)) k_ hn_)), Or.elim hk_ (fun hs_ => hs_.2) (fun hn_ => (Kd.freshB (g := gb239) (o := .cells #[.int .u64 x240000_1, .int .u64 x240001_1, .int .i64 x240002_1, .slice Ao15 x240003_1.length co15] 27 (0, 0)) (pk BK239.out) k_ hn_))⟩)) (below_size (pb HB))); have n3_ := am (blk_below (pk BK239.out) hb); have n4_ := am (below_step (pb HB) hb); clear HO_20; clear HO_240003; clear BK239; clear HB; have HO_20 := n0_; have HO_240003 := n1_; have HO249 := n2_; have BK239 := n3_; have HB := n4_; clear n0_ n1_ n2_ n3_ n4_; (try clear hb); (try clear hb2); (try clear hk); (try clear hi); (try clear ho0)) | ((with_reducible refine gate_dst (N := 5) rfl ?_); (try (refine gate_guard (by rfl) ?_; dsimp only)); refine be 5 #[.int .u64 0, .int .u64 0, .int .i64 0, .slice none 0 0] 27 ?_; intro gb251 hg w17 hbox hb; have n0_ := am (Kd.R_below (pr HO_20.out) hb); have n1_ := am (Kd.V_below (Kd.V_elderB (pv HO_240003.out) gb251 (Nat.le_of_eq hg.symm)) hb); have n2_ := am (Kd.V_below (Kd.V_elderB (pv HO249.out) gb251 (Nat.le_of_eq hg.symm)) hb); have n3_ := am (blk_below (pk BK239.out) hb); have n4_ := am (below_step (pb HB) hb); have n5_ := am (hbox); have n6_ := am ((pg hg HB : w.heap.size ≤ gb251)); have n7_ := am ((pg hg HB : w.heap.size ≤ gb251)); have n8_ := am ((pl hg (pk BK239.out) : gb239 ≠ gb251)); have n9_ := am ((pl' hg (pk BK239.out) : gb251 ≠ gb239)); clear HO_20; clear HO_240003; clear HO249; clear BK239; clear HB; have HO_20 := n0_; have HO_240003 := n1_; have HO249 := n2_; have BK239 := n3_; have HB := n4_; have BK251 := n5_; have GW251 := n6_; have GE251 := n7_; have NB239_251 := n8_; have NB251_239 := n9_; clear n0_ n1_ n2_ n3_ n4_ n5_ n6_ n7_ n8_ n9_; clear hb hbox hg; have hnb18 := NB251_239.out; have hnc18 := NB239_251.out; have hcz19_0 := ce BK251 0; have hcz19_1 := ce BK251 1; have hcz19_2 := ce BK251 2; have hcz19_3 := ce BK251 3; have hfz19_0 := fz BK251 0; have hfz19_1 := fz BK251 1; have hfz19_2 := fz BK251 2; have hfz19_3 := fz BK251 3; obtain ⟨Ao20, co20, eo20⟩ := Kd.V_slice HO249.out; subst eo20; have hcz21_0 := ce BK239 0; have hcz21_1 := ce BK239 1; have hcz21_2 := ce BK239 2; have hcz21_3 := ce BK239 3; have hfz21_0 := fz BK239 0; have hfz21_1 := fz BK239 1; have hfz21_2 := fz BK239 2; have hfz21_3 := fz BK239 3))
       go_roundg k1
       case measure => have := HK1.out; omega
       case rel => exact ⟨(wrap64 (x22_1 + 1)), (t244), (t245), (t246), (t247), (.slice Ao20 t247.length co20), (by first | rfl | (simp; done) | (simp [*]; done)), H', ⟨by have := HK1.out; omega⟩, ⟨by refine pr ?_; exact Kd.R_mono (Kd.R_far (p := ⟨gb239, 3, none⟩) (Kd.R_far (p := ⟨gb239, 2, none⟩) (Kd.R_far (p := ⟨gb239, 1, none⟩) (Kd.R_far (p := ⟨gb239, 0, none⟩) (Kd.R_far (p := ⟨gb251, 3, none⟩) (Kd.R_far (p := ⟨gb251, 2, none⟩) (Kd.R_far (p := ⟨gb251, 1, none⟩) (Kd.R_far (p := ⟨gb251, 0, none⟩) (Kd.R_types (Kd.R_types HO_20.out BK251.out (by decide)) BK239.out (by decide)) (fun _ hk => hk.1.2) (.int .u64 t244)) (fun _ hk => hk.1.2) (.int .u64 t245)) (fun _ hk => hk.1.2) (.int .i64 t246)) (fun _ hk => hk.1.2) (.slice Ao20 t247.length co20)) (fun _ hk => hk.2) (.int .u64 t244)) (fun _ hk => hk.2) (.int .u64 t245)) (fun _ hk => hk.2) (.int .i64 t246)) (fun _ hk => hk.2) (.slice Ao20 t247.length co20)) (fun _ hk => trivial)⟩, ⟨by refine pv ?_; exact Kd.V_mono (Kd.V_far (p := ⟨gb239, 3, none⟩) (Kd.V_far (p := ⟨gb239, 2, none⟩) (Kd.V_far (p := ⟨gb239, 1, none⟩) (Kd.V_far (p := ⟨gb239, 0, none⟩) (Kd.V_far (p := ⟨gb251, 3, none⟩) (Kd.V_far (p := ⟨gb251, 2, none⟩) (Kd.V_far (p := ⟨gb251, 1, none⟩) (Kd.V_far (p := ⟨gb251, 0, none⟩) (Kd.V_mono (Kd.V_mono HO249.out (fun k_ hk => (⟨hk, hk.2⟩ : _ ∧ k_ ≠ gb251))) (fun k_ hk => (⟨hk, hk.1.1.2⟩ : _ ∧ k_ ≠ gb239))) (fun _ hk => hk.1.2) (.int .u64 t244)) (fun _ hk => hk.1.2) (.int .u64 t245)) (fun _ hk => hk.1.2) (.int .i64 t246)) (fun _ hk => hk.1.2) (.slice Ao20 t247.length co20)) (fun _ hk => hk.2) (.int .u64 t244)) (fun _ hk => hk.2) (.int .u64 t245)) (fun _ hk => hk.2) (.int .i64 t246)) (fun _ hk => hk.2) (.slice Ao20 t247.length co20)) (fun _ hk => ⟨hk.1.1.1.1, hk.1.1.1.2⟩)⟩, ⟨by refine pk ?_; refine blk_put (cs := #[.int .u64 t244, .int .u64 t245, .int .i64 t246, .slice Ao15 x240003_1.length co15]) ?_ 3 _ rfl; refine pk ?_; refine blk_put (cs := #[.int .u64 t244, .int .u64 t245, .int .i64 x240002_1, .slice Ao15 x240003_1.length co15]) ?_ 2 _ rfl; refine pk ?_; refine blk_put (cs := #[.int .u64 t244, .int .u64 x240001_1, .int .i64 x240002_1, .slice Ao15 x240003_1.length co15]) ?_ 1 _ rfl; refine pk ?_; refine blk_put (cs := #[.int .u64 x240000_1, .int .u64 x240001_1, .int .i64 x240002_1, .slice Ao15 x240003_1.length co15]) ?_ 0 _ rfl; refine pk ?_; refine blk_far ?_ NB239_251.out _; refine pk ?_; refine blk_far ?_ NB239_251.out _; refine pk ?_; refine blk_far ?_ NB239_251.out _; refine pk ?_; refine blk_far ?_ NB239_251.out _; refine pk ?_; exact BK239.out⟩, ⟨pb HB⟩⟩
      ·rw [if_neg c13] at H
       exact Bool.noConfusion ((Option.some.inj H).trans hrT.out)
     ·rw [if_neg c11] at H
      exact absurd H (by simp)
    ·rw [if_neg c10] at H
     exact absurd H (by simp)
   ·rw [if_neg c9] at H
    have c9b0 : decide (x22_1 < (y240.length : Int)) = false := decide_eq_false c9
    clear c9
    replace H := Option.bind_eq_some_iff.mp H
    obtain ⟨⟨t252, t253, t254, t255, t258⟩, A290, H⟩ := H
    try dsimp only at H
    have A29 := am A290
    clear A290
    replace H := Option.bind_eq_some_iff.mp H
    obtain ⟨⟨t260, t261, t262, t263, t266⟩, A300, H⟩ := H
    try dsimp only at H
    have A30 := am A300
    clear A300
    have HC31 := am H
    clear H
    have hcz32_0 := ce BK239 0
    have hcz32_1 := ce BK239 1
    have hcz32_2 := ce BK239 2
    have hcz32_3 := ce BK239 3
    have hfz32_0 := fz BK239 0
    have hfz32_1 := fz BK239 1
    have hfz32_2 := fz BK239 2
    have hfz32_3 := fz BK239 3
    obtain ⟨Ao33, co33, eo33⟩ := Kd.V_slice HO_240003.out
    subst eo33
    go_upto_region 12 with (first | ((with_reducible refine gate_callee (f := 12) rfl ?_); refine gl (some 39) Try.func12 #[.agg #[.int .u64 x240000_1, .int .u64 x240001_1, .int .i64 x240002_1, .slice Ao33 x240003_1.length co33], .agg #[.int .u64 x240000_1, .int .u64 x240001_1, .int .i64 x240002_1, .slice Ao33 x240003_1.length co33]] ?_; (with_reducible refine (bottom_Merge.calls k1 x240000_1 x240001_1 x240002_1 (fun k_ => (some k_ ≠ (.slice Ao8 y240.length co8 : Value).ownBlock ∧ k_ ≠ gb239)) _ _ x240003_1 x240000_1 x240001_1 x240002_1 _ _ x240003_1 t252 t253 t254 t255 t258 _ ?side1 ?side2 ?side3 A29.out).mono ?_); (case side1 => exact HO_240003.out); (case side2 => repeat (first | exact (Kd.V_reads' HO_240003.out).2.2 | (with_reducible refine Kd.C_alloc ?_ _) | (with_reducible refine Kd.C_drewN ?_ _) | (with_reducible refine Kd.C_drew ?_))); (case side3 => exact (Kd.V_reads' HO_240003.out).2.1); rintro e w34 ⟨v256, rfl, ho0, hb⟩; refine ⟨_, rfl, ?_⟩; have n0_ := am (Kd.R_below (pr HO_20.out) hb); have n1_ := am (Kd.V_below (pv HO_240003.out) hb); have n2_ := am (Kd.V_lower (Kd.V_mono (ok' := fun k_ => some k_ ≠ (.slice Ao8 y240.length co8 : Value).ownBlock ∧ k_ ≠ gb239) ho0 (fun k_ hk_ => ⟨Or.elim hk_ (fun hs_ => hs_.1) (fun hn_ => (Kd.fresh' (Kd.R_lt (pr HO_20.out)) k_ hn_)), Or.elim hk_ (fun hs_ => hs_.2) (fun hn_ => (Kd.freshB (g := gb239) (o := .cells #[.int .u64 x240000_1, .int .u64 x240001_1, .int .i64 x240002_1, .slice Ao33 x240003_1.length co33] 27 (0, 0)) (pk BK239.out) k_ hn_))⟩)) (below_size (pb HB))); have n3_ := am (blk_below (pk BK239.out) hb); have n4_ := am (below_step (pb HB) hb); clear HO_20; clear HO_240003; clear BK239; clear HB; have HO_20 := n0_; have HO_240003 := n1_; have HO257 := n2_; have BK239 := n3_; have HB := n4_; clear n0_ n1_ n2_ n3_ n4_; (try clear hb); (try clear hb2); (try clear hk); (try clear hi); (try clear ho0)) | ((with_reducible refine gate_dst (N := 7) rfl ?_); (try (refine gate_guard (by rfl) ?_; dsimp only)); refine be 7 #[.int .u64 0, .int .u64 0, .int .i64 0, .slice none 0 0] 27 ?_; intro gb259 hg w35 hbox hb; have n0_ := am (Kd.R_below (pr HO_20.out) hb); have n1_ := am (Kd.V_below (Kd.V_elderB (pv HO_240003.out) gb259 (Nat.le_of_eq hg.symm)) hb); have n2_ := am (Kd.V_below (Kd.V_elderB (pv HO257.out) gb259 (Nat.le_of_eq hg.symm)) hb); have n3_ := am (blk_below (pk BK239.out) hb); have n4_ := am (below_step (pb HB) hb); have n5_ := am (hbox); have n6_ := am ((pg hg HB : w.heap.size ≤ gb259)); have n7_ := am ((pg hg HB : w.heap.size ≤ gb259)); have n8_ := am ((pl hg (pk BK239.out) : gb239 ≠ gb259)); have n9_ := am ((pl' hg (pk BK239.out) : gb259 ≠ gb239)); clear HO_20; clear HO_240003; clear HO257; clear BK239; clear HB; have HO_20 := n0_; have HO_240003 := n1_; have HO257 := n2_; have BK239 := n3_; have HB := n4_; have BK259 := n5_; have GW259 := n6_; have GE259 := n7_; have NB239_259 := n8_; have NB259_239 := n9_; clear n0_ n1_ n2_ n3_ n4_ n5_ n6_ n7_ n8_ n9_; clear hb hbox hg; have hnb36 := NB259_239.out; have hnc36 := NB239_259.out; have hcz37_0 := ce BK259 0; have hcz37_1 := ce BK259 1; have hcz37_2 := ce BK259 2; have hcz37_3 := ce BK259 3; have hfz37_0 := fz BK259 0; have hfz37_1 := fz BK259 1; have hfz37_2 := fz BK259 2; have hfz37_3 := fz BK259 3; obtain ⟨Ao38, co38, eo38⟩ := Kd.V_slice HO257.out; subst eo38; have hcz39_0 := ce BK239 0; have hcz39_1 := ce BK239 1; have hcz39_2 := ce BK239 2; have hcz39_3 := ce BK239 3; have hfz39_0 := fz BK239 0; have hfz39_1 := fz BK239 1; have hfz39_2 := fz BK239 2; have hfz39_3 := fz BK239 3) | ((with_reducible refine gate_callee (f := 20) rfl ?_); refine gl (some 44) Try.func20 #[.agg #[.int .u64 x240000_1, .int .u64 x240001_1, .int .i64 x240002_1, .slice Ao33 x240003_1.length co33], .int .i64 1] ?_; (with_reducible refine (bottom_Cut.calls k1 x240000_1 x240001_1 x240002_1 _ _ x240003_1 1 t260 t261 t262 t263 t266 _ ?side1 ?side2 A30.out).mono ?_); (case side1 => refine (Kd.V_reads' (e := 62) (base := w.heap.size) (ok := fun k_ => ((some k_ ≠ (.slice Ao8 y240.length co8 : Value).ownBlock ∧ k_ ≠ gb239) ∧ k_ ≠ gb259)) (n := x240003_1.length) (c := co33) ?_).2.2; exact (pv ((Kd.V_mono (Kd.V_far (p := ⟨gb259, 3, none⟩) (Kd.V_far (p := ⟨gb259, 2, none⟩) (Kd.V_far (p := ⟨gb259, 1, none⟩) (Kd.V_far (p := ⟨gb259, 0, none⟩) (Kd.V_mono HO_240003.out (fun k_ hk => (⟨hk, hk.2⟩ : _ ∧ k_ ≠ gb259))) (fun _ hk => hk.2) (.int .u64 t252)) (fun _ hk => hk.2) (.int .u64 t253)) (fun _ hk => hk.2) (.int .i64 t254)) (fun _ hk => hk.2) (.slice Ao38 t255.length co38)) (fun _ h_ => h_.1))))); (case side2 => exact (Kd.V_reads' HO_240003.out).2.1); rintro e w40 ⟨v264, rfl, ho0, hb⟩; refine ⟨_, rfl, ?_⟩; have n0_ := am (Kd.R_below (pr ((Kd.R_mono (Kd.R_far (p := ⟨gb259, 3, none⟩) (Kd.R_far (p := ⟨gb259, 2, none⟩) (Kd.R_far (p := ⟨gb259, 1, none⟩) (Kd.R_far (p := ⟨gb259, 0, none⟩) (Kd.R_types HO_20.out BK259.out (by decide)) (fun _ hk => hk.2) (.int .u64 t252)) (fun _ hk => hk.2) (.int .u64 t253)) (fun _ hk => hk.2) (.int .i64 t254)) (fun _ hk => hk.2) (.slice Ao38 t255.length co38)) (fun _ h_ => h_.1)))) hb); have n1_ := am (Kd.V_below (pv ((Kd.V_mono (Kd.V_far (p := ⟨gb259, 3, none⟩) (Kd.V_far (p := ⟨gb259, 2, none⟩) (Kd.V_far (p := ⟨gb259, 1, none⟩) (Kd.V_far (p := ⟨gb259, 0, none⟩) (Kd.V_mono HO_240003.out (fun k_ hk => (⟨hk, hk.2⟩ : _ ∧ k_ ≠ gb259))) (fun _ hk => hk.2) (.int .u64 t252)) (fun _ hk => hk.2) (.int .u64 t253)) (fun _ hk => hk.2) (.int .i64 t254)) (fun _ hk => hk.2) (.slice Ao38 t255.length co38)) (fun _ h_ => h_.1)))) hb); have n2_ := am (Kd.V_below (pv ((Kd.V_mono (Kd.V_far (p := ⟨gb259, 3, none⟩) (Kd.V_far (p := ⟨gb259, 2, none⟩) (Kd.V_far (p := ⟨gb259, 1, none⟩) (Kd.V_far (p := ⟨gb259, 0, none⟩) (Kd.V_mono HO257.out (fun k_ hk => (⟨hk, hk.2⟩ : _ ∧ k_ ≠ gb259))) (fun _ hk => hk.2) (.int .u64 t252)) (fun _ hk => hk.2) (.int .u64 t253)) (fun _ hk => hk.2) (.int .i64 t254)) (fun _ hk => hk.2) (.slice Ao38 t255.length co38)) (fun _ h_ => h_.1)))) hb); have n3_ := am (Kd.V_lower (Kd.V_mono (ok' := fun k_ => some k_ ≠ (.slice Ao8 y240.length co8 : Value).ownBlock ∧ k_ ≠ gb239 ∧ k_ ≠ gb259) ho0 (fun k_ hk_ => ⟨(Kd.fresh' (Kd.R_lt (pr ((Kd.R_mono (Kd.R_far (p := ⟨gb259, 3, none⟩) (Kd.R_far (p := ⟨gb259, 2, none⟩) (Kd.R_far (p := ⟨gb259, 1, none⟩) (Kd.R_far (p := ⟨gb259, 0, none⟩) (Kd.R_types HO_20.out BK259.out (by decide)) (fun _ hk => hk.2) (.int .u64 t252)) (fun _ hk => hk.2) (.int .u64 t253)) (fun _ hk => hk.2) (.int .i64 t254)) (fun _ hk => hk.2) (.slice Ao38 t255.length co38)) (fun _ h_ => h_.1))))) k_ hk_), (Kd.freshB (g := gb239) (o := .cells #[.int .u64 x240000_1, .int .u64 x240001_1, .int .i64 x240002_1, .slice Ao33 x240003_1.length co33] 27 (0, 0)) (by refine pk ?_; refine blk_far ?_ NB239_259.out _; refine pk ?_; refine blk_far ?_ NB239_259.out _; refine pk ?_; refine blk_far ?_ NB239_259.out _; refine pk ?_; refine blk_far ?_ NB239_259.out _; refine pk ?_; exact BK239.out) k_ hk_), (Kd.freshB (g := gb259) (o := .cells #[.int .u64 t252, .int .u64 t253, .int .i64 t254, .slice Ao38 t255.length co38] 27 (0, 0)) (by refine pk ?_; refine blk_put (cs := #[.int .u64 t252, .int .u64 t253, .int .i64 t254, .slice none 0 0]) ?_ 3 _ rfl; refine pk ?_; refine blk_put (cs := #[.int .u64 t252, .int .u64 t253, .int .i64 0, .slice none 0 0]) ?_ 2 _ rfl; refine pk ?_; refine blk_put (cs := #[.int .u64 t252, .int .u64 0, .int .i64 0, .slice none 0 0]) ?_ 1 _ rfl; refine pk ?_; refine blk_put (cs := #[.int .u64 0, .int .u64 0, .int .i64 0, .slice none 0 0]) ?_ 0 _ rfl; refine pk ?_; exact BK259.out) k_ hk_)⟩)) (below_size (pb HB))); have n4_ := am (blk_below (g := gb239) (o := .cells #[.int .u64 x240000_1, .int .u64 x240001_1, .int .i64 x240002_1, .slice Ao33 x240003_1.length co33] 27 (0, 0)) (by refine pk ?_; refine blk_far ?_ NB239_259.out _; refine pk ?_; refine blk_far ?_ NB239_259.out _; refine pk ?_; refine blk_far ?_ NB239_259.out _; refine pk ?_; refine blk_far ?_ NB239_259.out _; refine pk ?_; exact BK239.out) hb); have n5_ := am (blk_below (g := gb259) (o := .cells #[.int .u64 t252, .int .u64 t253, .int .i64 t254, .slice Ao38 t255.length co38] 27 (0, 0)) (by refine pk ?_; refine blk_put (cs := #[.int .u64 t252, .int .u64 t253, .int .i64 t254, .slice none 0 0]) ?_ 3 _ rfl; refine pk ?_; refine blk_put (cs := #[.int .u64 t252, .int .u64 t253, .int .i64 0, .slice none 0 0]) ?_ 2 _ rfl; refine pk ?_; refine blk_put (cs := #[.int .u64 t252, .int .u64 0, .int .i64 0, .slice none 0 0]) ?_ 1 _ rfl; refine pk ?_; refine blk_put (cs := #[.int .u64 0, .int .u64 0, .int .i64 0, .slice none 0 0]) ?_ 0 _ rfl; refine pk ?_; exact BK259.out) hb); have n6_ := am (below_step (pb HB) hb); clear HO_20; clear HO_240003; clear HO257; clear BK239; clear BK259; clear HB; have HO_20 := n0_; have HO_240003 := n1_; have HO257 := n2_; have HO265 := n3_; have BK239 := n4_; have BK259 := n5_; have HB := n6_; clear n0_ n1_ n2_ n3_ n4_ n5_ n6_; (try clear hb); (try clear hb2); (try clear hk); (try clear hi); (try clear ho0)) | ((with_reducible refine gate_dst (N := 9) rfl ?_); (try (refine gate_guard (by rfl) ?_; dsimp only)); refine be 9 #[.int .u64 0, .int .u64 0, .int .i64 0, .slice none 0 0] 27 ?_; intro gb267 hg w41 hbox hb; have n0_ := am (Kd.R_below (pr HO_20.out) hb); have n1_ := am (Kd.V_below (Kd.V_elderB (pv HO_240003.out) gb267 (Nat.le_of_eq hg.symm)) hb); have n2_ := am (Kd.V_below (Kd.V_elderB (pv HO257.out) gb267 (Nat.le_of_eq hg.symm)) hb); have n3_ := am (Kd.V_below (Kd.V_elderB (pv HO265.out) gb267 (Nat.le_of_eq hg.symm)) hb); have n4_ := am (blk_below (pk BK239.out) hb); have n5_ := am (blk_below (pk BK259.out) hb); have n6_ := am (below_step (pb HB) hb); have n7_ := am (hbox); have n8_ := am ((pg hg HB : w.heap.size ≤ gb267)); have n9_ := am ((pg hg HB : w.heap.size ≤ gb267)); have n10_ := am ((pl hg (pk BK239.out) : gb239 ≠ gb267)); have n11_ := am ((pl' hg (pk BK239.out) : gb267 ≠ gb239)); have n12_ := am ((pl hg (pk BK259.out) : gb259 ≠ gb267)); have n13_ := am ((pl' hg (pk BK259.out) : gb267 ≠ gb259)); clear HO_20; clear HO_240003; clear HO257; clear HO265; clear BK239; clear BK259; clear HB; have HO_20 := n0_; have HO_240003 := n1_; have HO257 := n2_; have HO265 := n3_; have BK239 := n4_; have BK259 := n5_; have HB := n6_; have BK267 := n7_; have GW267 := n8_; have GE267 := n9_; have NB239_267 := n10_; have NB267_239 := n11_; have NB259_267 := n12_; have NB267_259 := n13_; clear n0_ n1_ n2_ n3_ n4_ n5_ n6_ n7_ n8_ n9_ n10_ n11_ n12_ n13_; clear hb hbox hg; have hnb42 := NB267_239.out; have hnc42 := NB239_267.out; have hnb43 := NB267_259.out; have hnc43 := NB259_267.out; have hcz44_0 := ce BK267 0; have hcz44_1 := ce BK267 1; have hcz44_2 := ce BK267 2; have hcz44_3 := ce BK267 3; have hfz44_0 := fz BK267 0; have hfz44_1 := fz BK267 1; have hfz44_2 := fz BK267 2; have hfz44_3 := fz BK267 3; obtain ⟨Ao45, co45, eo45⟩ := Kd.V_slice HO265.out; subst eo45))
    (try simp only [Act.put, List.setIfInBounds_toArray, List.set_cons_zero, List.set_cons_succ])
    go_cut [56] (fun v56 wc => ∃ (kq : Nat) (x56_30 : Bool), v56 = .bool x56_30 ∧ Aside0 (l14_awake.j1 kq t238 t258 t266 x56_30 x240000_1 x240001_1 x240002_1 x240003_1 t252 t253 t254 t255 t260 t261 t262 t263 = some r) ∧ Aside0 (kq ≤ k1) ∧ Aside0 (Kd.V k62 62 wc w.heap.size (fun k_ => k_ ≠ gb239 ∧ k_ ≠ gb259 ∧ k_ ≠ gb267) (.slice Ao33 x240003_1.length co33) x240003_1) ∧ Aside0 (Kd.V k62 62 wc w.heap.size (fun k_ => k_ ≠ gb239 ∧ k_ ≠ gb259 ∧ k_ ≠ gb267) (.slice Ao38 t255.length co38) t255) ∧ Aside0 (Kd.V k62 62 wc w.heap.size (fun k_ => k_ ≠ gb239 ∧ k_ ≠ gb259 ∧ k_ ≠ gb267) (.slice Ao45 t263.length co45) t263) ∧ Aside0 (wc.heap[gb239]? = some (.cells #[.int .u64 x240000_1, .int .u64 x240001_1, .int .i64 x240002_1, (.slice Ao33 x240003_1.length co33)] 27 (0, 0))) ∧ Aside0 (wc.heap[gb259]? = some (.cells #[.int .u64 t252, .int .u64 t253, .int .i64 t254, (.slice Ao38 t255.length co38)] 27 (0, 0))) ∧ Aside0 (wc.heap[gb267]? = some (.cells #[.int .u64 t260, .int .u64 t261, .int .i64 t262, (.slice Ao45 t263.length co45)] 27 (0, 0))) ∧ Aside0 (Below w.heap.size w wc))
    case first =>
     have H := HC31.out
     clear HC31
     by_cases c46 : (x240003_1.length : Int) = 3
     ·rw [if_pos c46] at H
      have c46b0 : ((x240003_1.length : Int) == 3) = true := beq_iff_eq.mpr c46
      have c46b1 : ((x240003_1.length : Int) != 3) = false := bne_eq_false_iff_eq.mpr c46
      clear c46
      (first | rw [c46b0] | (simp only [i64_w, i32_w]; rw [c46b0]) | skip)
      have H' := am H
      clear H
      have hnb47 := NB239_259.out
      have hnc47 := NB259_239.out
      have hnb48 := NB239_267.out
      have hnc48 := NB267_239.out
      have hcz49_0 := ce BK239 0
      have hcz49_1 := ce BK239 1
      have hcz49_2 := ce BK239 2
      have hcz49_3 := ce BK239 3
      have hfz49_0 := fz BK239 0
      have hfz49_1 := fz BK239 1
      have hfz49_2 := fz BK239 2
      have hfz49_3 := fz BK239 3
      have hnb50 := NB259_267.out
      have hnc50 := NB267_259.out
      have hcz51_0 := ce BK259 0
      have hcz51_1 := ce BK259 1
      have hcz51_2 := ce BK259 2
      have hcz51_3 := ce BK259 3
      have hfz51_0 := fz BK259 0
      have hfz51_1 := fz BK259 1
      have hfz51_2 := fz BK259 2
      have hfz51_3 := fz BK259 3
      go_wp2
      go_meet
      case rel => exact ⟨_, (((t255.length : Int) != 3)), (by first | rfl | (simp; done) | (simp [*]; done)), H', ⟨by have := HK1.out; first | omega | exact Nat.le_refl _⟩, ⟨by refine pv ?_; exact Kd.V_mono (Kd.V_far (p := ⟨gb267, 3, none⟩) (Kd.V_far (p := ⟨gb267, 2, none⟩) (Kd.V_far (p := ⟨gb267, 1, none⟩) (Kd.V_far (p := ⟨gb267, 0, none⟩) (Kd.V_mono HO_240003.out (fun k_ hk => (⟨hk, hk.2⟩ : _ ∧ k_ ≠ gb267))) (fun _ hk => hk.2) (.int .u64 t260)) (fun _ hk => hk.2) (.int .u64 t261)) (fun _ hk => hk.2) (.int .i64 t262)) (fun _ hk => hk.2) (.slice Ao45 t263.length co45)) (fun _ hk => ⟨hk.1.1.1.2, ⟨hk.1.1.2, hk.1.2⟩⟩)⟩, ⟨by refine pv ?_; exact Kd.V_mono (Kd.V_far (p := ⟨gb267, 3, none⟩) (Kd.V_far (p := ⟨gb267, 2, none⟩) (Kd.V_far (p := ⟨gb267, 1, none⟩) (Kd.V_far (p := ⟨gb267, 0, none⟩) (Kd.V_mono HO257.out (fun k_ hk => (⟨hk, hk.2⟩ : _ ∧ k_ ≠ gb267))) (fun _ hk => hk.2) (.int .u64 t260)) (fun _ hk => hk.2) (.int .u64 t261)) (fun _ hk => hk.2) (.int .i64 t262)) (fun _ hk => hk.2) (.slice Ao45 t263.length co45)) (fun _ hk => ⟨hk.1.1.1.2, ⟨hk.1.1.2, hk.1.2⟩⟩)⟩, ⟨by refine pv ?_; exact Kd.V_mono (Kd.V_far (p := ⟨gb267, 3, none⟩) (Kd.V_far (p := ⟨gb267, 2, none⟩) (Kd.V_far (p := ⟨gb267, 1, none⟩) (Kd.V_far (p := ⟨gb267, 0, none⟩) (Kd.V_mono HO265.out (fun k_ hk => (⟨hk, hk.2⟩ : _ ∧ k_ ≠ gb267))) (fun _ hk => hk.2) (.int .u64 t260)) (fun _ hk => hk.2) (.int .u64 t261)) (fun _ hk => hk.2) (.int .i64 t262)) (fun _ hk => hk.2) (.slice Ao45 t263.length co45)) (fun _ hk => ⟨hk.1.1.2.1, ⟨hk.1.1.2.2, hk.1.2⟩⟩)⟩, ⟨by refine pk ?_; refine blk_far ?_ NB239_267.out _; refine pk ?_; refine blk_far ?_ NB239_267.out _; refine pk ?_; refine blk_far ?_ NB239_267.out _; refine pk ?_; refine blk_far ?_ NB239_267.out _; refine pk ?_; exact BK239.out⟩, ⟨by refine pk ?_; refine blk_far ?_ NB259_267.out _; refine pk ?_; refine blk_far ?_ NB259_267.out _; refine pk ?_; refine blk_far ?_ NB259_267.out _; refine pk ?_; refine blk_far ?_ NB259_267.out _; refine pk ?_; exact BK259.out⟩, ⟨by refine pk ?_; refine blk_put (cs := #[.int .u64 t260, .int .u64 t261, .int .i64 t262, .slice none 0 0]) ?_ 3 _ rfl; refine pk ?_; refine blk_put (cs := #[.int .u64 t260, .int .u64 t261, .int .i64 0, .slice none 0 0]) ?_ 2 _ rfl; refine pk ?_; refine blk_put (cs := #[.int .u64 t260, .int .u64 0, .int .i64 0, .slice none 0 0]) ?_ 1 _ rfl; refine pk ?_; refine blk_put (cs := #[.int .u64 0, .int .u64 0, .int .i64 0, .slice none 0 0]) ?_ 0 _ rfl; refine pk ?_; exact BK267.out⟩, ⟨pb HB⟩⟩
     ·rw [if_neg c46] at H
      have c46b0 : ((x240003_1.length : Int) == 3) = false := beq_eq_false_iff_ne.mpr c46
      have c46b1 : ((x240003_1.length : Int) != 3) = true := bne_iff_ne.mpr c46
      (first | rw [c46b0] | (simp only [i64_w, i32_w]; rw [c46b0]) | skip)
      have H' := am H
      clear H
      have hnb52 := NB239_259.out
      have hnc52 := NB259_239.out
      have hnb53 := NB239_267.out
      have hnc53 := NB267_239.out
      have hcz54_0 := ce BK239 0
      have hcz54_1 := ce BK239 1
      have hcz54_2 := ce BK239 2
      have hcz54_3 := ce BK239 3
      have hfz54_0 := fz BK239 0
      have hfz54_1 := fz BK239 1
      have hfz54_2 := fz BK239 2
      have hfz54_3 := fz BK239 3
      go_wp2
      go_meet
      case rel => exact ⟨_, (true), (by first | rfl | (simp; done) | (simp [*]; done)), H', ⟨by have := HK1.out; first | omega | exact Nat.le_refl _⟩, ⟨by refine pv ?_; exact Kd.V_mono (Kd.V_far (p := ⟨gb267, 3, none⟩) (Kd.V_far (p := ⟨gb267, 2, none⟩) (Kd.V_far (p := ⟨gb267, 1, none⟩) (Kd.V_far (p := ⟨gb267, 0, none⟩) (Kd.V_mono HO_240003.out (fun k_ hk => (⟨hk, hk.2⟩ : _ ∧ k_ ≠ gb267))) (fun _ hk => hk.2) (.int .u64 t260)) (fun _ hk => hk.2) (.int .u64 t261)) (fun _ hk => hk.2) (.int .i64 t262)) (fun _ hk => hk.2) (.slice Ao45 t263.length co45)) (fun _ hk => ⟨hk.1.1.1.2, ⟨hk.1.1.2, hk.1.2⟩⟩)⟩, ⟨by refine pv ?_; exact Kd.V_mono (Kd.V_far (p := ⟨gb267, 3, none⟩) (Kd.V_far (p := ⟨gb267, 2, none⟩) (Kd.V_far (p := ⟨gb267, 1, none⟩) (Kd.V_far (p := ⟨gb267, 0, none⟩) (Kd.V_mono HO257.out (fun k_ hk => (⟨hk, hk.2⟩ : _ ∧ k_ ≠ gb267))) (fun _ hk => hk.2) (.int .u64 t260)) (fun _ hk => hk.2) (.int .u64 t261)) (fun _ hk => hk.2) (.int .i64 t262)) (fun _ hk => hk.2) (.slice Ao45 t263.length co45)) (fun _ hk => ⟨hk.1.1.1.2, ⟨hk.1.1.2, hk.1.2⟩⟩)⟩, ⟨by refine pv ?_; exact Kd.V_mono (Kd.V_far (p := ⟨gb267, 3, none⟩) (Kd.V_far (p := ⟨gb267, 2, none⟩) (Kd.V_far (p := ⟨gb267, 1, none⟩) (Kd.V_far (p := ⟨gb267, 0, none⟩) (Kd.V_mono HO265.out (fun k_ hk => (⟨hk, hk.2⟩ : _ ∧ k_ ≠ gb267))) (fun _ hk => hk.2) (.int .u64 t260)) (fun _ hk => hk.2) (.int .u64 t261)) (fun _ hk => hk.2) (.int .i64 t262)) (fun _ hk => hk.2) (.slice Ao45 t263.length co45)) (fun _ hk => ⟨hk.1.1.2.1, ⟨hk.1.1.2.2, hk.1.2⟩⟩)⟩, ⟨by refine pk ?_; refine blk_far ?_ NB239_267.out _; refine pk ?_; refine blk_far ?_ NB239_267.out _; refine pk ?_; refine blk_far ?_ NB239_267.out _; refine pk ?_; refine blk_far ?_ NB239_267.out _; refine pk ?_; exact BK239.out⟩, ⟨by refine pk ?_; refine blk_far ?_ NB259_267.out _; refine pk ?_; refine blk_far ?_ NB259_267.out _; refine pk ?_; refine blk_far ?_ NB259_267.out _; refine pk ?_; refine blk_far ?_ NB259_267.out _; refine pk ?_; exact BK259.out⟩, ⟨by refine pk ?_; refine blk_put (cs := #[.int .u64 t260, .int .u64 t261, .int .i64 t262, .slice none 0 0]) ?_ 3 _ rfl; refine pk ?_; refine blk_put (cs := #[.int .u64 t260, .int .u64 t261, .int .i64 0, .slice none 0 0]) ?_ 2 _ rfl; refine pk ?_; refine blk_put (cs := #[.int .u64 t260, .int .u64 0, .int .i64 0, .slice none 0 0]) ?_ 1 _ rfl; refine pk ?_; refine blk_put (cs := #[.int .u64 0, .int .u64 0, .int .i64 0, .slice none 0 0]) ?_ 0 _ rfl; refine pk ?_; exact BK267.out⟩, ⟨pb HB⟩⟩
    case rest =>
     clear HC31
     try clear c1
     try clear c2
     try clear p2
     try clear q2
     try clear hx2
     try clear c3
     try clear c4
     try clear c5
     try clear p6
     try clear c9
     try clear c9b0
     try clear c10
     try clear c10b0
     try clear c11
     try clear c11b0
     try clear c12
     try clear c13
     try clear c13b0
     try clear c13b1
     try clear c16
     try clear c17
     try clear c18
     try clear c20
     try clear p24
     try clear q24
     try clear hx24
     try clear c26
     try clear c36
     try clear c42
     try clear c43
     try clear c46
     try clear c46b0
     try clear c46b1
     try clear c47
     try clear c48
     try clear c50
     try clear c52
     try clear c53
     try clear hcz14_0 hcz14_1 hcz14_2 hcz14_3
     try clear hcz19_0 hcz19_1 hcz19_2 hcz19_3
     try clear hcz21_0 hcz21_1 hcz21_2 hcz21_3
     try clear hcz22_0 hcz22_1 hcz22_2 hcz22_3
     try clear hcz27_0 hcz27_1 hcz27_2 hcz27_3
     try clear hcz32_0 hcz32_1 hcz32_2 hcz32_3
     try clear hcz37_0 hcz37_1 hcz37_2 hcz37_3
     try clear hcz39_0 hcz39_1 hcz39_2 hcz39_3
     try clear hcz44_0 hcz44_1 hcz44_2 hcz44_3
     try clear hcz49_0 hcz49_1 hcz49_2 hcz49_3
     try clear hcz4_0 hcz4_1 hcz4_2 hcz4_3
     try clear hcz51_0 hcz51_1 hcz51_2 hcz51_3
     try clear hcz54_0 hcz54_1 hcz54_2 hcz54_3
     try clear hfz14_0 hfz14_1 hfz14_2 hfz14_3
     try clear hfz19_0 hfz19_1 hfz19_2 hfz19_3
     try clear hfz21_0 hfz21_1 hfz21_2 hfz21_3
     try clear hfz22_0 hfz22_1 hfz22_2 hfz22_3
     try clear hfz27_0 hfz27_1 hfz27_2 hfz27_3
     try clear hfz32_0 hfz32_1 hfz32_2 hfz32_3
     try clear hfz37_0 hfz37_1 hfz37_2 hfz37_3
     try clear hfz39_0 hfz39_1 hfz39_2 hfz39_3
     try clear hfz44_0 hfz44_1 hfz44_2 hfz44_3
     try clear hfz49_0 hfz49_1 hfz49_2 hfz49_3
     try clear hfz4_0 hfz4_1 hfz4_2 hfz4_3
     try clear hfz51_0 hfz51_1 hfz51_2 hfz51_3
     try clear hfz54_0 hfz54_1 hfz54_2 hfz54_3
     try clear hx243_0
     try clear p2
     try clear p243
     try clear q243
     obtain ⟨kq, x56_30, rfl, HA, HJ30, HO_240003, HO_260003, HO_268003, BK239, BK259, BK267, HB⟩ := hcut
     cases kq with
     | zero => exact absurd HA.out (by simp [l14_awake.j1])
     | succ kj30 =>
      have H := HA.out
      clear HA
      simp only [l14_awake.j1] at H
      by_cases c55 : x56_30 = true
      ·subst c55
       have H1 : (some false) = some r := by rw [if_pos rfl] at H; exact H
       clear H
       have H := H1
       clear H1
       obtain rfl := Option.some.inj H
       go_wp2
       go_ret
       exact ⟨by first | rfl | (simp [errW_none, errW_some] <;> rfl) | (simp [*, errW_none, errW_some] <;> rfl), pb HB⟩
      ·replace c55 := Bool.eq_false_iff.mpr c55
       subst c55
       have H1 : ((bottom_Threshold.f kj30 x240000_1 x240001_1 x240002_1 x240003_1).bind fun bt268 => ((bottom_Add.f kj30 x240000_1 x240001_1 x240002_1 x240003_1 (⟨#[97]⟩ : ByteArray) 0).bind fun bt270 => (if t238 = 0 then (if t258 = 0 then (if t266 = 0 then (if (t263.length : Int) = 2 then (if 0 < (t255.length : Int) then (if 0 < (x240003_1.length : Int) then (if ((rd_T62 t255 0).f1) = ((rd_T62 x240003_1 0).f1) then (if ((rd_T62 t255 0).f2.f1) = (IntKind.u64.wrap (2 * ((rd_T62 x240003_1 0).f2.f1))) then (if ((rd_T62 x240003_1 0).f2.f1) ≥ 5 then (if bt268.2 = true then (if bt270.2.2.2.2 = 7 then ((bottom_Right.f kj30 t252 t253 t254 t255).bind fun t283 => (some t283)) else (some false)) else (some false)) else (some false)) else (some false)) else (some false)) else (none)) else (none)) else (some false)) else (some false)) else (some false)) else (some false)))) = some r := by rw [if_neg (show ¬ (false = true) by decide)] at H; exact H
       clear H
       have H := H1
       clear H1
       replace H := Option.bind_eq_some_iff.mp H
       obtain ⟨⟨t268, t269⟩, A560, H⟩ := H
       try dsimp only at H
       have A56 := am A560
       clear A560
       replace H := Option.bind_eq_some_iff.mp H
       obtain ⟨⟨t270, t271, t272, t273, t276⟩, A570, H⟩ := H
       try dsimp only at H
       have A57 := am A570
       clear A570
       by_cases c58 : t238 = 0
       ·rw [if_pos c58] at H
        have c58b0 : (t238 == 0) = true := beq_iff_eq.mpr c58
        have c58b1 : (t238 != 0) = false := bne_eq_false_iff_eq.mpr c58
        clear c58
        by_cases c59 : t258 = 0
        ·rw [if_pos c59] at H
         have c59b0 : (t258 == 0) = true := beq_iff_eq.mpr c59
         have c59b1 : (t258 != 0) = false := bne_eq_false_iff_eq.mpr c59
         clear c59
         by_cases c60 : t266 = 0
         ·rw [if_pos c60] at H
          have c60b0 : (t266 == 0) = true := beq_iff_eq.mpr c60
          have c60b1 : (t266 != 0) = false := bne_eq_false_iff_eq.mpr c60
          clear c60
          by_cases c61 : (t263.length : Int) = 2
          ·rw [if_pos c61] at H
           have c61b0 : ((t263.length : Int) == 2) = true := beq_iff_eq.mpr c61
           have c61b1 : ((t263.length : Int) != 2) = false := bne_eq_false_iff_eq.mpr c61
           clear c61
           by_cases c62 : 0 < (t255.length : Int)
           ·rw [if_pos c62] at H
            have c62b0 : decide (0 < (t255.length : Int)) = true := decide_eq_true c62
            have c62b1 : decide (0 < t255.length) = true := decide_eq_true (by omega)
            clear c62
            by_cases c63 : 0 < (x240003_1.length : Int)
            ·rw [if_pos c63] at H
             have c63b0 : decide (0 < (x240003_1.length : Int)) = true := decide_eq_true c63
             have c63b1 : decide (0 < x240003_1.length) = true := decide_eq_true (by omega)
             clear c63
             by_cases c64 : ((rd_T62 t255 0).f1) = ((rd_T62 x240003_1 0).f1)
             ·rw [if_pos c64] at H
              have c64b0 : (((rd_T62 t255 0).f1) == ((rd_T62 x240003_1 0).f1)) = true := beq_iff_eq.mpr c64
              have c64b1 : (((rd_T62 t255 0).f1) != ((rd_T62 x240003_1 0).f1)) = false := bne_eq_false_iff_eq.mpr c64
              clear c64
              by_cases c65 : ((rd_T62 t255 0).f2.f1) = (IntKind.u64.wrap (2 * ((rd_T62 x240003_1 0).f2.f1)))
              ·rw [if_pos c65] at H
               have c65b0 : (((rd_T62 t255 0).f2.f1) == (IntKind.u64.wrap (2 * ((rd_T62 x240003_1 0).f2.f1)))) = true := beq_iff_eq.mpr c65
               have c65b1 : (((rd_T62 t255 0).f2.f1) != (IntKind.u64.wrap (2 * ((rd_T62 x240003_1 0).f2.f1)))) = false := bne_eq_false_iff_eq.mpr c65
               clear c65
               by_cases c66 : ((rd_T62 x240003_1 0).f2.f1) ≥ 5
               ·rw [if_pos c66] at H
                have c66b0 : decide (5 ≤ ((rd_T62 x240003_1 0).f2.f1)) = true := decide_eq_true c66
                clear c66
                by_cases c67 : t269 = true
                ·subst c67
                 have H1 : (if t276 = 7 then ((bottom_Right.f kj30 t252 t253 t254 t255).bind fun t283 => (some t283)) else (some false)) = some r := by rw [if_pos rfl] at H; exact H
                 clear H
                 have H := H1
                 clear H1
                 by_cases c68 : t276 = 7
                 ·rw [if_pos c68] at H
                  have c68b0 : (t276 == 7) = true := beq_iff_eq.mpr c68
                  have c68b1 : (t276 != 7) = false := bne_eq_false_iff_eq.mpr c68
                  clear c68
                  replace H := Option.bind_eq_some_iff.mp H
                  obtain ⟨t283, A690, H⟩ := H
                  try dsimp only at H
                  have A69 := am A690
                  clear A690
                  obtain rfl := Option.some.inj H
                  have hnb70 := NB239_259.out
                  have hnc70 := NB259_239.out
                  have hnb71 := NB239_267.out
                  have hnc71 := NB267_239.out
                  have hcz72_0 := ce BK239 0
                  have hcz72_1 := ce BK239 1
                  have hcz72_2 := ce BK239 2
                  have hcz72_3 := ce BK239 3
                  have hfz72_0 := fz BK239 0
                  have hfz72_1 := fz BK239 1
                  have hfz72_2 := fz BK239 2
                  have hfz72_3 := fz BK239 3
                  try go_wp2_with (first | ((with_reducible refine gate_callee (f := 25) rfl ?_); refine gl (some 59) Try.func25 #[.agg #[.int .u64 x240000_1, .int .u64 x240001_1, .int .i64 x240002_1, .slice Ao33 x240003_1.length co33]] ?_; (with_reducible refine (bottom_Threshold.calls kj30 x240000_1 x240001_1 x240002_1 _ _ x240003_1 t268 true _ ?side1 ?side2 A56.out).mono ?_); (case side1 => repeat (first | exact (Kd.V_reads' HO_240003.out).2.2 | (with_reducible refine Kd.C_alloc ?_ _) | (with_reducible refine Kd.C_drewN ?_ _) | (with_reducible refine Kd.C_drew ?_))); (case side2 => exact (Kd.V_reads' HO_240003.out).2.1); rintro e w73 ⟨rfl, hb⟩; refine ⟨_, rfl, ?_⟩; replace HO_240003 := am (Kd.V_below (pv HO_240003.out) hb); replace HO_260003 := am (Kd.V_below (pv HO_260003.out) hb); replace HO_268003 := am (Kd.V_below (pv HO_268003.out) hb); replace BK239 := am (blk_below (pk BK239.out) hb); replace BK259 := am (blk_below (pk BK259.out) hb); replace BK267 := am (blk_below (pk BK267.out) hb); replace HB := am (below_step (pb HB) hb); (try clear hb); (try clear hb2); (try clear hk); (try clear hi); have hcz74_0 := ce BK239 0; have hcz74_1 := ce BK239 1; have hcz74_2 := ce BK239 2; have hcz74_3 := ce BK239 3; have hfz74_0 := fz BK239 0; have hfz74_1 := fz BK239 1; have hfz74_2 := fz BK239 2; have hfz74_3 := fz BK239 3) | ((with_reducible refine gate_callee (f := 17) rfl ?_); refine gl (some 64) Try.func17 #[.agg #[.int .u64 x240000_1, .int .u64 x240001_1, .int .i64 x240002_1, .slice Ao33 x240003_1.length co33], .string (⟨#[97]⟩ : ByteArray), .int .u64 0] ?_; (with_reducible refine (bottom_Add.calls kj30 x240000_1 x240001_1 x240002_1 (fun k_ => (k_ ≠ gb239 ∧ (k_ ≠ gb259 ∧ k_ ≠ gb267))) _ _ x240003_1 (⟨#[97]⟩ : ByteArray) 0 t270 t271 t272 t273 t276 _ ?side1 A57.out).mono ?_); (case side1 => exact HO_240003.out); rintro e w75 ⟨v274, rfl, ho0, hb⟩; refine ⟨_, rfl, ?_⟩; replace HO_240003 := am (Kd.V_below (pv HO_240003.out) hb); replace HO_260003 := am (Kd.V_below (pv HO_260003.out) hb); replace HO_268003 := am (Kd.V_below (pv HO_268003.out) hb); have HO275 := am (Kd.V_lower (Kd.V_mono (ok' := fun k_ => k_ ≠ gb239 ∧ k_ ≠ gb259 ∧ k_ ≠ gb267) ho0 (fun k_ hk_ => ⟨Or.elim hk_ (fun hs_ => hs_.1) (fun hn_ => (Kd.freshB (g := gb239) (o := .cells #[.int .u64 x240000_1, .int .u64 x240001_1, .int .i64 x240002_1, .slice Ao33 x240003_1.length co33] 27 (0, 0)) (pk BK239.out) k_ hn_)), Or.elim hk_ (fun hs_ => hs_.2.1) (fun hn_ => (Kd.freshB (g := gb259) (o := .cells #[.int .u64 t252, .int .u64 t253, .int .i64 t254, .slice Ao38 t255.length co38] 27 (0, 0)) (pk BK259.out) k_ hn_)), Or.elim hk_ (fun hs_ => hs_.2.2) (fun hn_ => (Kd.freshB (g := gb267) (o := .cells #[.int .u64 t260, .int .u64 t261, .int .i64 t262, .slice Ao45 t263.length co45] 27 (0, 0)) (pk BK267.out) k_ hn_))⟩)) (below_size (pb HB))); replace BK239 := am (blk_below (pk BK239.out) hb); replace BK259 := am (blk_below (pk BK259.out) hb); replace BK267 := am (blk_below (pk BK267.out) hb); replace HB := am (below_step (pb HB) hb); (try clear hb); (try clear hb2); (try clear hk); (try clear hi); (try clear ho0)) | ((with_reducible refine gate_dst (N := 13) rfl ?_); (try (refine gate_guard (by rfl) ?_; dsimp only)); refine be 13 #[.int .u64 0, .int .u64 0, .int .i64 0, .slice none 0 0] 27 ?_; intro gb277 hg w76 hbox hb; have n0_ := am (Kd.V_below (Kd.V_elderB (pv HO_240003.out) gb277 (Nat.le_of_eq hg.symm)) hb); have n1_ := am (Kd.V_below (Kd.V_elderB (pv HO_260003.out) gb277 (Nat.le_of_eq hg.symm)) hb); have n2_ := am (Kd.V_below (Kd.V_elderB (pv HO_268003.out) gb277 (Nat.le_of_eq hg.symm)) hb); have n3_ := am (Kd.V_below (Kd.V_elderB (pv HO275.out) gb277 (Nat.le_of_eq hg.symm)) hb); have n4_ := am (blk_below (pk BK239.out) hb); have n5_ := am (blk_below (pk BK259.out) hb); have n6_ := am (blk_below (pk BK267.out) hb); have n7_ := am (below_step (pb HB) hb); have n8_ := am (hbox); have n9_ := am ((pg hg HB : w.heap.size ≤ gb277)); have n10_ := am ((pg hg HB : w.heap.size ≤ gb277)); have n11_ := am ((pl hg (pk BK239.out) : gb239 ≠ gb277)); have n12_ := am ((pl' hg (pk BK239.out) : gb277 ≠ gb239)); have n13_ := am ((pl hg (pk BK259.out) : gb259 ≠ gb277)); have n14_ := am ((pl' hg (pk BK259.out) : gb277 ≠ gb259)); have n15_ := am ((pl hg (pk BK267.out) : gb267 ≠ gb277)); have n16_ := am ((pl' hg (pk BK267.out) : gb277 ≠ gb267)); clear HO_240003; clear HO_260003; clear HO_268003; clear HO275; clear BK239; clear BK259; clear BK267; clear HB; have HO_240003 := n0_; have HO_260003 := n1_; have HO_268003 := n2_; have HO275 := n3_; have BK239 := n4_; have BK259 := n5_; have BK267 := n6_; have HB := n7_; have BK277 := n8_; have GW277 := n9_; have GE277 := n10_; have NB239_277 := n11_; have NB277_239 := n12_; have NB259_277 := n13_; have NB277_259 := n14_; have NB267_277 := n15_; have NB277_267 := n16_; clear n0_ n1_ n2_ n3_ n4_ n5_ n6_ n7_ n8_ n9_ n10_ n11_ n12_ n13_ n14_ n15_ n16_; clear hb hbox hg; have hnb77 := NB277_239.out; have hnc77 := NB239_277.out; have hnb78 := NB277_259.out; have hnc78 := NB259_277.out; have hnb79 := NB277_267.out; have hnc79 := NB267_277.out; have hcz80_0 := ce BK277 0; have hcz80_1 := ce BK277 1; have hcz80_2 := ce BK277 2; have hcz80_3 := ce BK277 3; have hfz80_0 := fz BK277 0; have hfz80_1 := fz BK277 1; have hfz80_2 := fz BK277 2; have hfz80_3 := fz BK277 3; obtain ⟨Ao81, co81, eo81⟩ := Kd.V_slice HO275.out; subst eo81))
                  have n0_ : Aside0 (Kd.V k62 62 ((((w76.setCell ⟨gb277, 0, none⟩ (.int .u64 t270)).setCell ⟨gb277, 1, none⟩ (.int .u64 t271)).setCell ⟨gb277, 2, none⟩ (.int .i64 t272)).setCell ⟨gb277, 3, none⟩ (.slice Ao81 t273.length co81)) w.heap.size (fun k_ => k_ ≠ gb239 ∧ k_ ≠ gb259 ∧ k_ ≠ gb267 ∧ k_ ≠ gb277) (.slice Ao33 x240003_1.length co33) x240003_1) := ⟨by refine pv ?_; exact Kd.V_mono (Kd.V_far (p := ⟨gb277, 3, none⟩) (Kd.V_far (p := ⟨gb277, 2, none⟩) (Kd.V_far (p := ⟨gb277, 1, none⟩) (Kd.V_far (p := ⟨gb277, 0, none⟩) (Kd.V_mono HO_240003.out (fun k_ hk => (⟨hk, hk.2⟩ : _ ∧ k_ ≠ gb277))) (fun _ hk => hk.2) (.int .u64 t270)) (fun _ hk => hk.2) (.int .u64 t271)) (fun _ hk => hk.2) (.int .i64 t272)) (fun _ hk => hk.2) (.slice Ao81 t273.length co81)) (fun _ hk => ⟨hk.1.1.1, ⟨hk.1.1.2.1, ⟨hk.1.1.2.2, hk.1.2⟩⟩⟩)⟩
                  have n1_ : Aside0 (Kd.V k62 62 ((((w76.setCell ⟨gb277, 0, none⟩ (.int .u64 t270)).setCell ⟨gb277, 1, none⟩ (.int .u64 t271)).setCell ⟨gb277, 2, none⟩ (.int .i64 t272)).setCell ⟨gb277, 3, none⟩ (.slice Ao81 t273.length co81)) w.heap.size (fun k_ => k_ ≠ gb239 ∧ k_ ≠ gb259 ∧ k_ ≠ gb267 ∧ k_ ≠ gb277) (.slice Ao38 t255.length co38) t255) := ⟨by refine pv ?_; exact Kd.V_mono (Kd.V_far (p := ⟨gb277, 3, none⟩) (Kd.V_far (p := ⟨gb277, 2, none⟩) (Kd.V_far (p := ⟨gb277, 1, none⟩) (Kd.V_far (p := ⟨gb277, 0, none⟩) (Kd.V_mono HO_260003.out (fun k_ hk => (⟨hk, hk.2⟩ : _ ∧ k_ ≠ gb277))) (fun _ hk => hk.2) (.int .u64 t270)) (fun _ hk => hk.2) (.int .u64 t271)) (fun _ hk => hk.2) (.int .i64 t272)) (fun _ hk => hk.2) (.slice Ao81 t273.length co81)) (fun _ hk => ⟨hk.1.1.1, ⟨hk.1.1.2.1, ⟨hk.1.1.2.2, hk.1.2⟩⟩⟩)⟩
                  have n2_ : Aside0 (Kd.V k62 62 ((((w76.setCell ⟨gb277, 0, none⟩ (.int .u64 t270)).setCell ⟨gb277, 1, none⟩ (.int .u64 t271)).setCell ⟨gb277, 2, none⟩ (.int .i64 t272)).setCell ⟨gb277, 3, none⟩ (.slice Ao81 t273.length co81)) w.heap.size (fun k_ => k_ ≠ gb239 ∧ k_ ≠ gb259 ∧ k_ ≠ gb267 ∧ k_ ≠ gb277) (.slice Ao45 t263.length co45) t263) := ⟨by refine pv ?_; exact Kd.V_mono (Kd.V_far (p := ⟨gb277, 3, none⟩) (Kd.V_far (p := ⟨gb277, 2, none⟩) (Kd.V_far (p := ⟨gb277, 1, none⟩) (Kd.V_far (p := ⟨gb277, 0, none⟩) (Kd.V_mono HO_268003.out (fun k_ hk => (⟨hk, hk.2⟩ : _ ∧ k_ ≠ gb277))) (fun _ hk => hk.2) (.int .u64 t270)) (fun _ hk => hk.2) (.int .u64 t271)) (fun _ hk => hk.2) (.int .i64 t272)) (fun _ hk => hk.2) (.slice Ao81 t273.length co81)) (fun _ hk => ⟨hk.1.1.1, ⟨hk.1.1.2.1, ⟨hk.1.1.2.2, hk.1.2⟩⟩⟩)⟩
                  have n3_ : Aside0 (Kd.V k62 62 ((((w76.setCell ⟨gb277, 0, none⟩ (.int .u64 t270)).setCell ⟨gb277, 1, none⟩ (.int .u64 t271)).setCell ⟨gb277, 2, none⟩ (.int .i64 t272)).setCell ⟨gb277, 3, none⟩ (.slice Ao81 t273.length co81)) w.heap.size (fun k_ => k_ ≠ gb239 ∧ k_ ≠ gb259 ∧ k_ ≠ gb267 ∧ k_ ≠ gb277) (.slice Ao81 t273.length co81) t273) := ⟨by refine pv ?_; exact Kd.V_mono (Kd.V_far (p := ⟨gb277, 3, none⟩) (Kd.V_far (p := ⟨gb277, 2, none⟩) (Kd.V_far (p := ⟨gb277, 1, none⟩) (Kd.V_far (p := ⟨gb277, 0, none⟩) (Kd.V_mono HO275.out (fun k_ hk => (⟨hk, hk.2⟩ : _ ∧ k_ ≠ gb277))) (fun _ hk => hk.2) (.int .u64 t270)) (fun _ hk => hk.2) (.int .u64 t271)) (fun _ hk => hk.2) (.int .i64 t272)) (fun _ hk => hk.2) (.slice Ao81 t273.length co81)) (fun _ hk => ⟨hk.1.1.1, ⟨hk.1.1.2.1, ⟨hk.1.1.2.2, hk.1.2⟩⟩⟩)⟩
                  have n4_ : Aside0 (((((w76.setCell ⟨gb277, 0, none⟩ (.int .u64 t270)).setCell ⟨gb277, 1, none⟩ (.int .u64 t271)).setCell ⟨gb277, 2, none⟩ (.int .i64 t272)).setCell ⟨gb277, 3, none⟩ (.slice Ao81 t273.length co81)).heap[gb239]? = some (.cells #[.int .u64 x240000_1, .int .u64 x240001_1, .int .i64 x240002_1, .slice Ao33 x240003_1.length co33] 27 (0, 0))) := ⟨by refine pk ?_; refine blk_far ?_ NB239_277.out _; refine pk ?_; refine blk_far ?_ NB239_277.out _; refine pk ?_; refine blk_far ?_ NB239_277.out _; refine pk ?_; refine blk_far ?_ NB239_277.out _; refine pk ?_; exact BK239.out⟩
                  have n5_ : Aside0 (((((w76.setCell ⟨gb277, 0, none⟩ (.int .u64 t270)).setCell ⟨gb277, 1, none⟩ (.int .u64 t271)).setCell ⟨gb277, 2, none⟩ (.int .i64 t272)).setCell ⟨gb277, 3, none⟩ (.slice Ao81 t273.length co81)).heap[gb259]? = some (.cells #[.int .u64 t252, .int .u64 t253, .int .i64 t254, .slice Ao38 t255.length co38] 27 (0, 0))) := ⟨by refine pk ?_; refine blk_far ?_ NB259_277.out _; refine pk ?_; refine blk_far ?_ NB259_277.out _; refine pk ?_; refine blk_far ?_ NB259_277.out _; refine pk ?_; refine blk_far ?_ NB259_277.out _; refine pk ?_; exact BK259.out⟩
                  have n6_ : Aside0 (((((w76.setCell ⟨gb277, 0, none⟩ (.int .u64 t270)).setCell ⟨gb277, 1, none⟩ (.int .u64 t271)).setCell ⟨gb277, 2, none⟩ (.int .i64 t272)).setCell ⟨gb277, 3, none⟩ (.slice Ao81 t273.length co81)).heap[gb267]? = some (.cells #[.int .u64 t260, .int .u64 t261, .int .i64 t262, .slice Ao45 t263.length co45] 27 (0, 0))) := ⟨by refine pk ?_; refine blk_far ?_ NB267_277.out _; refine pk ?_; refine blk_far ?_ NB267_277.out _; refine pk ?_; refine blk_far ?_ NB267_277.out _; refine pk ?_; refine blk_far ?_ NB267_277.out _; refine pk ?_; exact BK267.out⟩
                  have n7_ : Aside0 (((((w76.setCell ⟨gb277, 0, none⟩ (.int .u64 t270)).setCell ⟨gb277, 1, none⟩ (.int .u64 t271)).setCell ⟨gb277, 2, none⟩ (.int .i64 t272)).setCell ⟨gb277, 3, none⟩ (.slice Ao81 t273.length co81)).heap[gb277]? = some (.cells #[.int .u64 t270, .int .u64 t271, .int .i64 t272, .slice Ao81 t273.length co81] 27 (0, 0))) := ⟨by refine pk ?_; refine blk_put (cs := #[.int .u64 t270, .int .u64 t271, .int .i64 t272, .slice none 0 0]) ?_ 3 _ rfl; refine pk ?_; refine blk_put (cs := #[.int .u64 t270, .int .u64 t271, .int .i64 0, .slice none 0 0]) ?_ 2 _ rfl; refine pk ?_; refine blk_put (cs := #[.int .u64 t270, .int .u64 0, .int .i64 0, .slice none 0 0]) ?_ 1 _ rfl; refine pk ?_; refine blk_put (cs := #[.int .u64 0, .int .u64 0, .int .i64 0, .slice none 0 0]) ?_ 0 _ rfl; refine pk ?_; exact BK277.out⟩
                  have n8_ : Aside0 (Below w.heap.size w ((((w76.setCell ⟨gb277, 0, none⟩ (.int .u64 t270)).setCell ⟨gb277, 1, none⟩ (.int .u64 t271)).setCell ⟨gb277, 2, none⟩ (.int .i64 t272)).setCell ⟨gb277, 3, none⟩ (.slice Ao81 t273.length co81))) := ⟨pb HB⟩
                  (try clear HO_240003)
                  (try clear HO_260003)
                  (try clear HO_268003)
                  (try clear HO275)
                  (try clear BK239)
                  (try clear BK259)
                  (try clear BK267)
                  (try clear BK277)
                  (try clear HB)
                  generalize ((((w76.setCell ⟨gb277, 0, none⟩ (.int .u64 t270)).setCell ⟨gb277, 1, none⟩ (.int .u64 t271)).setCell ⟨gb277, 2, none⟩ (.int .i64 t272)).setCell ⟨gb277, 3, none⟩ (.slice Ao81 t273.length co81)) = w82 at n0_ n1_ n2_ n3_ n4_ n5_ n6_ n7_ n8_ ⊢
                  have HO_240003 := n0_
                  have HO_260003 := n1_
                  have HO_268003 := n2_
                  have HO275 := n3_
                  have BK239 := n4_
                  have BK259 := n5_
                  have BK267 := n6_
                  have BK277 := n7_
                  have HB := n8_
                  clear n0_ n1_ n2_ n3_ n4_ n5_ n6_ n7_ n8_
                  replace HO_240003 := am (Kd.V_drew HO_240003.out)
                  replace HO_260003 := am (Kd.V_drew HO_260003.out)
                  replace HO_268003 := am (Kd.V_drew HO_268003.out)
                  replace HO275 := am (Kd.V_drew HO275.out)
                  replace BK239 := am (blk_drew BK239.out)
                  replace BK259 := am (blk_drew BK259.out)
                  replace BK267 := am (blk_drew BK267.out)
                  replace BK277 := am (blk_drew BK277.out)
                  replace HB := am (below_drew1 HB.out)
                  have p278 : 0 ≤ (0 : Int) := (by omega)
                  have q278 : 0 < (t255.length : Int) := of_decide_eq_true (by first | (with_reducible assumption) | assumption)
                  obtain ⟨ad278, e278, hx278_0, hx278_1, hx278_2, hx278_3⟩ := at_T62 (Kd.V_reads' HO_260003.out).2.2 0 p278 q278
                  cases e278
                  have qi278 : (0 < t255.length) = True := eq_true (by omega)
                  (try rw [show ((0 : Int)).toNat = 0 from rfl] at hx278_0)
                  (try rw [show 0 * 4 = 0 from rfl] at hx278_0)
                  (try rw [Addr.add_zero'] at hx278_0)
                  (try rw [show ((0 : Int)).toNat = 0 from rfl] at hx278_1)
                  (try rw [show 0 * 4 = 0 from rfl] at hx278_1)
                  (try rw [Addr.add_zero'] at hx278_1)
                  (try rw [show ((0 : Int)).toNat = 0 from rfl] at hx278_2)
                  (try rw [show 0 * 4 = 0 from rfl] at hx278_2)
                  (try rw [Addr.add_zero'] at hx278_2)
                  (try rw [show ((0 : Int)).toNat = 0 from rfl] at hx278_3)
                  (try rw [show 0 * 4 = 0 from rfl] at hx278_3)
                  (try rw [Addr.add_zero'] at hx278_3)
                  replace p278 := eq_true p278
                  replace q278 := eq_true q278
                  have p279 : 0 ≤ (0 : Int) := (by omega)
                  have q279 : 0 < (x240003_1.length : Int) := of_decide_eq_true (by first | (with_reducible assumption) | assumption)
                  obtain ⟨ad279, e279, hx279_0, hx279_1, hx279_2, hx279_3⟩ := at_T62 (Kd.V_reads' HO_240003.out).2.2 0 p279 q279
                  cases e279
                  have qi279 : (0 < x240003_1.length) = True := eq_true (by omega)
                  (try rw [show ((0 : Int)).toNat = 0 from rfl] at hx279_0)
                  (try rw [show 0 * 4 = 0 from rfl] at hx279_0)
                  (try rw [Addr.add_zero'] at hx279_0)
                  (try rw [show ((0 : Int)).toNat = 0 from rfl] at hx279_1)
                  (try rw [show 0 * 4 = 0 from rfl] at hx279_1)
                  (try rw [Addr.add_zero'] at hx279_1)
                  (try rw [show ((0 : Int)).toNat = 0 from rfl] at hx279_2)
                  (try rw [show 0 * 4 = 0 from rfl] at hx279_2)
                  (try rw [Addr.add_zero'] at hx279_2)
                  (try rw [show ((0 : Int)).toNat = 0 from rfl] at hx279_3)
                  (try rw [show 0 * 4 = 0 from rfl] at hx279_3)
                  (try rw [Addr.add_zero'] at hx279_3)
                  replace p279 := eq_true p279
                  replace q279 := eq_true q279
                  have p280 : 0 ≤ (0 : Int) := (by omega)
                  have q280 : 0 < (t255.length : Int) := of_decide_eq_true (by first | (with_reducible assumption) | assumption)
                  obtain ⟨ad280, e280, hx280_0, hx280_1, hx280_2, hx280_3⟩ := at_T62 (Kd.V_reads' HO_260003.out).2.2 0 p280 q280
                  obtain rfl : ad278 = ad280 := (by injection e280)
                  have qi280 : (0 < t255.length) = True := eq_true (by omega)
                  (try rw [show ((0 : Int)).toNat = 0 from rfl] at hx280_0)
                  (try rw [show 0 * 4 = 0 from rfl] at hx280_0)
                  (try rw [Addr.add_zero'] at hx280_0)
                  (try rw [show ((0 : Int)).toNat = 0 from rfl] at hx280_1)
                  (try rw [show 0 * 4 = 0 from rfl] at hx280_1)
                  (try rw [Addr.add_zero'] at hx280_1)
                  (try rw [show ((0 : Int)).toNat = 0 from rfl] at hx280_2)
                  (try rw [show 0 * 4 = 0 from rfl] at hx280_2)
                  (try rw [Addr.add_zero'] at hx280_2)
                  (try rw [show ((0 : Int)).toNat = 0 from rfl] at hx280_3)
                  (try rw [show 0 * 4 = 0 from rfl] at hx280_3)
                  (try rw [Addr.add_zero'] at hx280_3)
                  replace p280 := eq_true p280
                  replace q280 := eq_true q280
                  have p281 : 0 ≤ (0 : Int) := (by omega)
                  have q281 : 0 < (x240003_1.length : Int) := of_decide_eq_true (by first | (with_reducible assumption) | assumption)
                  obtain ⟨ad281, e281, hx281_0, hx281_1, hx281_2, hx281_3⟩ := at_T62 (Kd.V_reads' HO_240003.out).2.2 0 p281 q281
                  obtain rfl : ad279 = ad281 := (by injection e281)
                  have qi281 : (0 < x240003_1.length) = True := eq_true (by omega)
                  (try rw [show ((0 : Int)).toNat = 0 from rfl] at hx281_0)
                  (try rw [show 0 * 4 = 0 from rfl] at hx281_0)
                  (try rw [Addr.add_zero'] at hx281_0)
                  (try rw [show ((0 : Int)).toNat = 0 from rfl] at hx281_1)
                  (try rw [show 0 * 4 = 0 from rfl] at hx281_1)
                  (try rw [Addr.add_zero'] at hx281_1)
                  (try rw [show ((0 : Int)).toNat = 0 from rfl] at hx281_2)
                  (try rw [show 0 * 4 = 0 from rfl] at hx281_2)
                  (try rw [Addr.add_zero'] at hx281_2)
                  (try rw [show ((0 : Int)).toNat = 0 from rfl] at hx281_3)
                  (try rw [show 0 * 4 = 0 from rfl] at hx281_3)
                  (try rw [Addr.add_zero'] at hx281_3)
                  replace p281 := eq_true p281
                  replace q281 := eq_true q281
                  have p282 : 0 ≤ (0 : Int) := (by omega)
                  have q282 : 0 < (x240003_1.length : Int) := of_decide_eq_true (by first | (with_reducible assumption) | assumption)
                  obtain ⟨ad282, e282, hx282_0, hx282_1, hx282_2, hx282_3⟩ := at_T62 (Kd.V_reads' HO_240003.out).2.2 0 p282 q282
                  obtain rfl : ad279 = ad282 := (by injection e282)
                  have qi282 : (0 < x240003_1.length) = True := eq_true (by omega)
                  (try rw [show ((0 : Int)).toNat = 0 from rfl] at hx282_0)
                  (try rw [show 0 * 4 = 0 from rfl] at hx282_0)
                  (try rw [Addr.add_zero'] at hx282_0)
                  (try rw [show ((0 : Int)).toNat = 0 from rfl] at hx282_1)
                  (try rw [show 0 * 4 = 0 from rfl] at hx282_1)
                  (try rw [Addr.add_zero'] at hx282_1)
                  (try rw [show ((0 : Int)).toNat = 0 from rfl] at hx282_2)
                  (try rw [show 0 * 4 = 0 from rfl] at hx282_2)
                  (try rw [Addr.add_zero'] at hx282_2)
                  (try rw [show ((0 : Int)).toNat = 0 from rfl] at hx282_3)
                  (try rw [show 0 * 4 = 0 from rfl] at hx282_3)
                  (try rw [Addr.add_zero'] at hx282_3)
                  replace p282 := eq_true p282
                  replace q282 := eq_true q282
                  refine start_ (n := 66) (S := fun w' => w'.cell? ⟨gb267, 0, none⟩ = some (.int .u64 t260) ∧ w'.cell? ⟨gb267, 1, none⟩ = some (.int .u64 t261) ∧ w'.cell? ⟨gb267, 2, none⟩ = some (.int .i64 t262) ∧ w'.cell? ⟨gb267, 3, none⟩ = some (.slice Ao45 t263.length co45) ∧ w'.cell? ⟨gb259, 0, none⟩ = some (.int .u64 t252) ∧ w'.cell? ⟨gb259, 1, none⟩ = some (.int .u64 t253) ∧ w'.cell? ⟨gb259, 2, none⟩ = some (.int .i64 t254) ∧ w'.cell? ⟨gb259, 3, none⟩ = some (.slice (some ad278) t255.length co38) ∧ w'.cell? ⟨gb239, 0, none⟩ = some (.int .u64 x240000_1) ∧ w'.cell? ⟨gb239, 1, none⟩ = some (.int .u64 x240001_1) ∧ w'.cell? ⟨gb239, 2, none⟩ = some (.int .i64 x240002_1) ∧ w'.cell? ⟨gb239, 3, none⟩ = some (.slice (some ad279) x240003_1.length co33) ∧ w'.cell? ad278 = some (.string ((rd_T62 t255 0).f0)) ∧ w'.cell? ⟨ad278.block, ad278.off + 1, none⟩ = some (.int .u64 ((rd_T62 t255 0).f1)) ∧ w'.cell? ⟨ad278.block, ad278.off + 2, none⟩ = some (.int .u64 ((rd_T62 t255 0).f2.f0)) ∧ w'.cell? ⟨ad278.block, ad278.off + 3, none⟩ = some (.int .u64 ((rd_T62 t255 0).f2.f1)) ∧ w'.cell? ad279 = some (.string ((rd_T62 x240003_1 0).f0)) ∧ w'.cell? ⟨ad279.block, ad279.off + 1, none⟩ = some (.int .u64 ((rd_T62 x240003_1 0).f1)) ∧ w'.cell? ⟨ad279.block, ad279.off + 2, none⟩ = some (.int .u64 ((rd_T62 x240003_1 0).f2.f0)) ∧ w'.cell? ⟨ad279.block, ad279.off + 3, none⟩ = some (.int .u64 ((rd_T62 x240003_1 0).f2.f1)) ∧ w'.cell? ad278 = some (.string ((rd_T62 t255 0).f0)) ∧ w'.cell? ⟨ad278.block, ad278.off + 1, none⟩ = some (.int .u64 ((rd_T62 t255 0).f1)) ∧ w'.cell? ⟨ad278.block, ad278.off + 2, none⟩ = some (.int .u64 ((rd_T62 t255 0).f2.f0)) ∧ w'.cell? ⟨ad278.block, ad278.off + 3, none⟩ = some (.int .u64 ((rd_T62 t255 0).f2.f1)) ∧ w'.cell? ad279 = some (.string ((rd_T62 x240003_1 0).f0)) ∧ w'.cell? ⟨ad279.block, ad279.off + 1, none⟩ = some (.int .u64 ((rd_T62 x240003_1 0).f1)) ∧ w'.cell? ⟨ad279.block, ad279.off + 2, none⟩ = some (.int .u64 ((rd_T62 x240003_1 0).f2.f0)) ∧ w'.cell? ⟨ad279.block, ad279.off + 3, none⟩ = some (.int .u64 ((rd_T62 x240003_1 0).f2.f1)) ∧ w'.cell? ad279 = some (.string ((rd_T62 x240003_1 0).f0)) ∧ w'.cell? ⟨ad279.block, ad279.off + 1, none⟩ = some (.int .u64 ((rd_T62 x240003_1 0).f1)) ∧ w'.cell? ⟨ad279.block, ad279.off + 2, none⟩ = some (.int .u64 ((rd_T62 x240003_1 0).f2.f0)) ∧ w'.cell? ⟨ad279.block, ad279.off + 3, none⟩ = some (.int .u64 ((rd_T62 x240003_1 0).f2.f1))) (ds := []) #[false, false, false, false, false, false, false, false, false, false, false, false, false, false, false, false, false, false, false, false, false, false, false, false, false, false, false, false, false, false, false, false, false, false, false, false, false, false, false, false, false, false, false, false, false, false, false, false, false, false, false, false, false, false, false, false, false, false, false, false, false, false, false, false, false, false] (by kernel_rfl) rfl rfl ⟨ce BK267 0, ce BK267 1, ce BK267 2, ce BK267 3, ce BK259 0, ce BK259 1, ce BK259 2, ce BK259 3, ce BK239 0, ce BK239 1, ce BK239 2, ce BK239 3, hx278_0, hx278_1, hx278_2, hx278_3, hx279_0, hx279_1, hx279_2, hx279_3, hx280_0, hx280_1, hx280_2, hx280_3, hx281_0, hx281_1, hx281_2, hx281_3, hx282_0, hx282_1, hx282_2, hx282_3⟩ (fun hHeld => ?_); refine with_tabW l14_awake.tab16 l14_awake.bits16 (fun HT_ HW_ => ?_)
                  generalize w82.drew = w83 at HO_240003 HO_260003 HO_268003 HO275 BK239 BK259 BK267 BK277 HB hx278_0 hx278_1 hx278_2 hx278_3 hx279_0 hx279_1 hx279_2 hx279_3 hx280_0 hx280_1 hx280_2 hx280_3 hx281_0 hx281_1 hx281_2 hx281_3 hx282_0 hx282_1 hx282_2 hx282_3 hHeld ⊢
                  refine pu 0 ?_
                  refine pu 1 ?_
                  refine pu 2 ?_
                  refine pu 3 ?_
                  refine pu 4 ?_
                  refine pu 5 ?_
                  refine pu 6 ?_
                  refine pu 7 ?_
                  refine pu 8 ?_
                  refine pu 9 ?_
                  refine pu 10 ?_
                  refine pu 11 ?_
                  refine ta 12 hHeld ?_
                  refine pu 13 ?_
                  refine pu 14 ?_
                  refine pu 15 ?_
                  refine pu 16 ?_
                  refine pu 17 ?_
                  refine pu 22 ?_
                  refine ta 18 hHeld ?_
                  refine pu 19 ?_
                  refine pu 20 ?_
                  refine ta 21 hHeld ?_
                  refine ta 23 hHeld ?_
                  refine pu 24 ?_
                  refine pu 25 ?_
                  refine ta 26 hHeld ?_
                  refine pu 27 ?_
                  refine pu 28 ?_
                  refine pu 29 ?_
                  refine pu 30 ?_
                  refine pu 36 ?_
                  refine ta 31 hHeld ?_
                  refine pu 32 ?_
                  refine pu 33 ?_
                  refine pu 34 ?_
                  refine ta 35 hHeld ?_
                  refine ta 37 hHeld ?_
                  refine pu 38 ?_
                  refine pu 39 ?_
                  refine pu 40 ?_
                  refine ta 41 hHeld ?_
                  refine pu 42 ?_
                  refine pu 43 ?_
                  refine pu 44 ?_
                  refine pu 45 ?_
                  refine pu 46 ?_
                  refine ta 47 hHeld ?_
                  refine pu 48 ?_
                  refine pu 49 ?_
                  refine pu 50 ?_
                  refine ta 51 hHeld ?_
                  refine pu 52 ?_
                  refine pu 53 ?_
                  refine pu 54 ?_
                  refine pu 55 ?_
                  refine pu 56 ?_
                  refine pu 57 ?_
                  refine pu 58 ?_
                  refine pu 59 ?_
                  refine pu 60 ?_
                  refine pu 61 ?_
                  refine ta 62 hHeld ?_
                  refine on1 63 (fun K hK => ?_)
                  refine gs Try.func21 #[.agg #[.int .u64 t252, .int .u64 t253, .int .i64 t254, .slice (some ad278) t255.length co38]] ?_
                  with_reducible refine (bottom_Right.calls kj30 t252 t253 t254 _ _ t255 t283 _ ?side1 ?side2 A69.out).mono ?_
                  (case side1 => repeat (first | exact (Kd.V_reads' HO_260003.out).2.2 | (with_reducible refine Kd.C_alloc ?_ _) | (with_reducible refine Kd.C_drewN ?_ _) | (with_reducible refine Kd.C_drew ?_)))
                  (case side2 => exact (Kd.V_reads' HO_260003.out).2.1)
                  rintro e w84 ⟨rfl, hb⟩
                  have HS12_ := (hb.cell (World.block_lt_of_cell? _ _ (hHeld.2.2.2.2.2.2.2.2.2.2.2.2.1))).trans (hHeld.2.2.2.2.2.2.2.2.2.2.2.2.1)
                  have HS13_ := (hb.cell (World.block_lt_of_cell? _ _ (hHeld.2.2.2.2.2.2.2.2.2.2.2.2.2.1))).trans (hHeld.2.2.2.2.2.2.2.2.2.2.2.2.2.1)
                  have HS14_ := (hb.cell (World.block_lt_of_cell? _ _ (hHeld.2.2.2.2.2.2.2.2.2.2.2.2.2.2.1))).trans (hHeld.2.2.2.2.2.2.2.2.2.2.2.2.2.2.1)
                  have HS15_ := (hb.cell (World.block_lt_of_cell? _ _ (hHeld.2.2.2.2.2.2.2.2.2.2.2.2.2.2.2.1))).trans (hHeld.2.2.2.2.2.2.2.2.2.2.2.2.2.2.2.1)
                  have HS16_ := (hb.cell (World.block_lt_of_cell? _ _ (hHeld.2.2.2.2.2.2.2.2.2.2.2.2.2.2.2.2.1))).trans (hHeld.2.2.2.2.2.2.2.2.2.2.2.2.2.2.2.2.1)
                  have HS17_ := (hb.cell (World.block_lt_of_cell? _ _ (hHeld.2.2.2.2.2.2.2.2.2.2.2.2.2.2.2.2.2.1))).trans (hHeld.2.2.2.2.2.2.2.2.2.2.2.2.2.2.2.2.2.1)
                  have HS18_ := (hb.cell (World.block_lt_of_cell? _ _ (hHeld.2.2.2.2.2.2.2.2.2.2.2.2.2.2.2.2.2.2.1))).trans (hHeld.2.2.2.2.2.2.2.2.2.2.2.2.2.2.2.2.2.2.1)
                  have HS19_ := (hb.cell (World.block_lt_of_cell? _ _ (hHeld.2.2.2.2.2.2.2.2.2.2.2.2.2.2.2.2.2.2.2.1))).trans (hHeld.2.2.2.2.2.2.2.2.2.2.2.2.2.2.2.2.2.2.2.1)
                  have HS20_ := (hb.cell (World.block_lt_of_cell? _ _ (hHeld.2.2.2.2.2.2.2.2.2.2.2.2.2.2.2.2.2.2.2.2.1))).trans (hHeld.2.2.2.2.2.2.2.2.2.2.2.2.2.2.2.2.2.2.2.2.1)
                  have HS21_ := (hb.cell (World.block_lt_of_cell? _ _ (hHeld.2.2.2.2.2.2.2.2.2.2.2.2.2.2.2.2.2.2.2.2.2.1))).trans (hHeld.2.2.2.2.2.2.2.2.2.2.2.2.2.2.2.2.2.2.2.2.2.1)
                  have HS22_ := (hb.cell (World.block_lt_of_cell? _ _ (hHeld.2.2.2.2.2.2.2.2.2.2.2.2.2.2.2.2.2.2.2.2.2.2.1))).trans (hHeld.2.2.2.2.2.2.2.2.2.2.2.2.2.2.2.2.2.2.2.2.2.2.1)
                  have HS23_ := (hb.cell (World.block_lt_of_cell? _ _ (hHeld.2.2.2.2.2.2.2.2.2.2.2.2.2.2.2.2.2.2.2.2.2.2.2.1))).trans (hHeld.2.2.2.2.2.2.2.2.2.2.2.2.2.2.2.2.2.2.2.2.2.2.2.1)
                  have HS24_ := (hb.cell (World.block_lt_of_cell? _ _ (hHeld.2.2.2.2.2.2.2.2.2.2.2.2.2.2.2.2.2.2.2.2.2.2.2.2.1))).trans (hHeld.2.2.2.2.2.2.2.2.2.2.2.2.2.2.2.2.2.2.2.2.2.2.2.2.1)
                  have HS25_ := (hb.cell (World.block_lt_of_cell? _ _ (hHeld.2.2.2.2.2.2.2.2.2.2.2.2.2.2.2.2.2.2.2.2.2.2.2.2.2.1))).trans (hHeld.2.2.2.2.2.2.2.2.2.2.2.2.2.2.2.2.2.2.2.2.2.2.2.2.2.1)
                  have HS26_ := (hb.cell (World.block_lt_of_cell? _ _ (hHeld.2.2.2.2.2.2.2.2.2.2.2.2.2.2.2.2.2.2.2.2.2.2.2.2.2.2.1))).trans (hHeld.2.2.2.2.2.2.2.2.2.2.2.2.2.2.2.2.2.2.2.2.2.2.2.2.2.2.1)
                  have HS27_ := (hb.cell (World.block_lt_of_cell? _ _ (hHeld.2.2.2.2.2.2.2.2.2.2.2.2.2.2.2.2.2.2.2.2.2.2.2.2.2.2.2.1))).trans (hHeld.2.2.2.2.2.2.2.2.2.2.2.2.2.2.2.2.2.2.2.2.2.2.2.2.2.2.2.1)
                  have HS28_ := (hb.cell (World.block_lt_of_cell? _ _ (hHeld.2.2.2.2.2.2.2.2.2.2.2.2.2.2.2.2.2.2.2.2.2.2.2.2.2.2.2.2.1))).trans (hHeld.2.2.2.2.2.2.2.2.2.2.2.2.2.2.2.2.2.2.2.2.2.2.2.2.2.2.2.2.1)
                  have HS29_ := (hb.cell (World.block_lt_of_cell? _ _ (hHeld.2.2.2.2.2.2.2.2.2.2.2.2.2.2.2.2.2.2.2.2.2.2.2.2.2.2.2.2.2.1))).trans (hHeld.2.2.2.2.2.2.2.2.2.2.2.2.2.2.2.2.2.2.2.2.2.2.2.2.2.2.2.2.2.1)
                  have HS30_ := (hb.cell (World.block_lt_of_cell? _ _ (hHeld.2.2.2.2.2.2.2.2.2.2.2.2.2.2.2.2.2.2.2.2.2.2.2.2.2.2.2.2.2.2.1))).trans (hHeld.2.2.2.2.2.2.2.2.2.2.2.2.2.2.2.2.2.2.2.2.2.2.2.2.2.2.2.2.2.2.1)
                  have HS31_ := (hb.cell (World.block_lt_of_cell? _ _ (hHeld.2.2.2.2.2.2.2.2.2.2.2.2.2.2.2.2.2.2.2.2.2.2.2.2.2.2.2.2.2.2.2))).trans (hHeld.2.2.2.2.2.2.2.2.2.2.2.2.2.2.2.2.2.2.2.2.2.2.2.2.2.2.2.2.2.2.2)
                  refine ⟨_, rfl, ?_⟩
                  replace HO_240003 := am (Kd.V_below (pv HO_240003.out) hb)
                  replace HO_260003 := am (Kd.V_below (pv HO_260003.out) hb)
                  replace HO_268003 := am (Kd.V_below (pv HO_268003.out) hb)
                  replace HO275 := am (Kd.V_below (pv HO275.out) hb)
                  replace BK239 := am (blk_below (pk BK239.out) hb)
                  replace BK259 := am (blk_below (pk BK259.out) hb)
                  replace BK267 := am (blk_below (pk BK267.out) hb)
                  replace BK277 := am (blk_below (pk BK277.out) hb)
                  replace HB := am (below_step (pb HB) hb)
                  (try clear hb)
                  (try clear hb2)
                  (try clear hk)
                  (try clear hi)
                  refine hK.out _ _ ⟨ce BK267 0, ce BK267 1, ce BK267 2, ce BK267 3, ce BK259 0, ce BK259 1, ce BK259 2, ce BK259 3, ce BK239 0, ce BK239 1, ce BK239 2, ce BK239 3, HS12_, HS13_, HS14_, HS15_, HS16_, HS17_, HS18_, HS19_, HS20_, HS21_, HS22_, HS23_, HS24_, HS25_, HS26_, HS27_, HS28_, HS29_, HS30_, HS31_⟩ (fun hHeld => ?_)
                  clear hK K
                  refine nm ?_
                  refine pu 64 ?_
                  refine pu 65 ?_
                  refine done_ (done_of HT_.out (by kernel_rfl)) ?_
                  try go_wp2
                  go_ret
                  exact ⟨by first | rfl | (simp [errW_none, errW_some] <;> rfl) | (simp [*, errW_none, errW_some] <;> rfl), pb HB⟩
                 ·rw [if_neg c68] at H
                  exact Bool.noConfusion ((Option.some.inj H).trans hrT.out)
                ·replace c67 := Bool.eq_false_iff.mpr c67
                 subst c67
                 have H1 : (some false) = some r := by rw [if_neg (show ¬ (false = true) by decide)] at H; exact H
                 exact Bool.noConfusion ((Option.some.inj H1).trans hrT.out)
               ·rw [if_neg c66] at H
                exact Bool.noConfusion ((Option.some.inj H).trans hrT.out)
              ·rw [if_neg c65] at H
               exact Bool.noConfusion ((Option.some.inj H).trans hrT.out)
             ·rw [if_neg c64] at H
              exact Bool.noConfusion ((Option.some.inj H).trans hrT.out)
            ·rw [if_neg c63] at H
             exact absurd H (by simp)
           ·rw [if_neg c62] at H
            exact absurd H (by simp)
          ·rw [if_neg c61] at H
           exact Bool.noConfusion ((Option.some.inj H).trans hrT.out)
         ·rw [if_neg c60] at H
          exact Bool.noConfusion ((Option.some.inj H).trans hrT.out)
        ·rw [if_neg c59] at H
         exact Bool.noConfusion ((Option.some.inj H).trans hrT.out)
       ·rw [if_neg c58] at H
        exact Bool.noConfusion ((Option.some.inj H).trans hrT.out)
theorem l14_awake.atK : l14_awake.f 60 = some true := by kernel_rfl
theorem l14_awake.up {t : Bool} : ∀ (d k : Nat), l14_awake.f k = some t → l14_awake.f (k + d) = some t
 | 0, _, h => h
 | d + 1, k, h => l14_awake.mono (k + d) _ (l14_awake.up d k h)
theorem l14_awake.true_ (k : Nat) (t : Bool) (h : l14_awake.f k = some t) : t = true := by
 have h1 := l14_awake.up 60 k h
 have h2 := l14_awake.up k 60 l14_awake.atK
 rw [Nat.add_comm] at h2
 exact Option.some.inj (h1.symm.trans h2)

end Go.Proofs.Ytmfffbafldbihaa.H
