import Derived.Test.YtmfffbafldbihaaHx0
import Derived.Test.YtmfffbafldbihaaHx9
import Derived.Test.YtmfffbafldbihaaHx11
import Derived.Test.YtmfffbafldbihaaHx12
namespace Go.Proofs.Ytmfffbafldbihaa.H
open Go.RowKit Go.Proofs.YtmfffbafldbihaaW.PrintWords Go.Proofs.YtmfffbafldbihaaW.PrintLast Go.Proofs.YtmfffbafldbihaaW.PrintMore Go.Proofs.YtmfffbafldbihaaW.Sq
attribute [local go_sem] max2_int min2_int max_two min_two max_three min_three max_four min_four
set_option linter.unusedVariables false
set_option linter.unusedSimpArgs false

mutual
def l14_awake.l0 : Nat → Int → List ByteArray → Int → Int → Int → Int → Int → List (S62) → Option (Bool)
 | 0, _, _, _, _, _, _, _, _ => none
 | k + 1, x2, x20, x21, x22, x228000, x228001, x228002, x228003 => if x22 < x21 then (if 0 ≤ x22 then (if x22 < (x20.length : Int) then ((bottom_Add.f k x228000 x228001 x228002 x228003 (rdOf ByteArray.empty x20 x22) 5).bind fun bt232 => (if bt232.2.2.2.2 = 0 then (l14_awake.l0 k x2 x20 x21 (wrap64 (x22 + 1)) bt232.1 bt232.2.1 bt232.2.2.1 bt232.2.2.2.1) else (some false))) else (none)) else (none)) else ((bottom_Merge.f k x228000 x228001 x228002 x228003 x228000 x228001 x228002 x228003).bind fun bt240 => ((bottom_Cut.f k x228000 x228001 x228002 x228003 1).bind fun bt248 => (if (x228003.length : Int) = 3 then (l14_awake.j1 k x2 bt240.2.2.2.2 bt248.2.2.2.2 ((bt240.2.2.2.1.length : Int) != 3) x228000 x228001 x228002 x228003 bt240.1 bt240.2.1 bt240.2.2.1 bt240.2.2.2.1 bt248.1 bt248.2.1 bt248.2.2.1 bt248.2.2.2.1) else (l14_awake.j1 k x2 bt240.2.2.2.2 bt248.2.2.2.2 true x228000 x228001 x228002 x228003 bt240.1 bt240.2.1 bt240.2.2.1 bt240.2.2.2.1 bt248.1 bt248.2.1 bt248.2.2.1 bt248.2.2.2.1))))
def l14_awake.j1 : Nat → Int → Int → Int → Bool → Int → Int → Int → List (S62) → Int → Int → Int → List (S62) → Int → Int → Int → List (S62) → Option (Bool)
 | 0, _, _, _, _, _, _, _, _, _, _, _, _, _, _, _, _ => none
 | k + 1, x2, x8, x10, x56, x228000, x228001, x228002, x228003, x248000, x248001, x248002, x248003, x256000, x256001, x256002, x256003 => if x56 = true then (some false) else ((bottom_Threshold.f k x228000 x228001 x228002 x228003).bind fun bt256 => ((bottom_Add.f k x228000 x228001 x228002 x228003 (⟨#[97]⟩ : ByteArray) 0).bind fun bt258 => (if x2 = 0 then (if x8 = 0 then (if x10 = 0 then (if (x256003.length : Int) = 2 then (if 0 < (x248003.length : Int) then (if 0 < (x228003.length : Int) then (if ((rd_T62 x248003 0).f1) = ((rd_T62 x228003 0).f1) then (if ((rd_T62 x248003 0).f2.f1) = (IntKind.u64.wrap (2 * ((rd_T62 x228003 0).f2.f1))) then (if ((rd_T62 x228003 0).f2.f1) ≥ 5 then (if bt256.2 = true then (if bt258.2.2.2.2 = 7 then ((bottom_Right.f k x248000 x248001 x248002 x248003).bind fun t271 => (some t271)) else (some false)) else (some false)) else (some false)) else (some false)) else (some false)) else (none)) else (none)) else (some false)) else (some false)) else (some false)) else (some false))))
end
def l14_awake.f (k : Nat)  : Option (Bool) := (bottom_New.f 3 0 2).bind fun bt220 => ((some (([(⟨#[97]⟩ : ByteArray), (⟨#[98]⟩ : ByteArray), (⟨#[99]⟩ : ByteArray), (⟨#[100]⟩ : ByteArray), (⟨#[97]⟩ : ByteArray)] : List ByteArray) : List ByteArray)).bind fun y228 => (l14_awake.l0 k bt220.2.2.2.2 y228 (y228.length : Int) 0 bt220.1 bt220.2.1 bt220.2.2.1 bt220.2.2.2.1))
theorem l14_awake.mono_l : ∀ k, (∀ y0 y1 y2 y3 y4 y5 y6 y7, LeO (l14_awake.l0 k y0 y1 y2 y3 y4 y5 y6 y7) (l14_awake.l0 (k + 1) y0 y1 y2 y3 y4 y5 y6 y7)) ∧ (∀ y0 y1 y2 y3 y4 y5 y6 y7 y8 y9 y10 y11 y12 y13 y14 y15, LeO (l14_awake.j1 k y0 y1 y2 y3 y4 y5 y6 y7 y8 y9 y10 y11 y12 y13 y14 y15) (l14_awake.j1 (k + 1) y0 y1 y2 y3 y4 y5 y6 y7 y8 y9 y10 y11 y12 y13 y14 y15))
 | 0 => ⟨fun _ _ _ _ _ _ _ _ r h => by simp [l14_awake.l0] at h, fun _ _ _ _ _ _ _ _ _ _ _ _ _ _ _ _ r h => by simp [l14_awake.j1] at h⟩
 | k + 1 => by
  obtain ⟨ih0, ih1⟩ := l14_awake.mono_l k
  refine ⟨?_, ?_⟩
  ·intro y0 y1 y2 y3 y4 y5 y6 y7
   unfold l14_awake.l0
   repeat' first
   | (with_reducible exact ih0 _ _ _ _ _ _ _ _)
   | (with_reducible exact ih1 _ _ _ _ _ _ _ _ _ _ _ _ _ _ _ _)
   | (with_reducible exact bottom_Add.mono _ _ _ _ _ _ _)
   | (with_reducible exact bottom_Cut.mono _ _ _ _ _ _)
   | (with_reducible exact bottom_Merge.mono _ _ _ _ _ _ _ _ _)
   | (with_reducible exact bottom_Right.mono _ _ _ _ _)
   | (with_reducible exact bottom_Threshold.mono _ _ _ _ _)
   | (with_reducible exact LeO.refl _)
   | (with_reducible exact LeO.none _)
   | (with_reducible refine LeO.ite ?_ ?_)
   | (with_reducible refine LeO.bind ?_ (fun _ => ?_))
  ·intro y0 y1 y2 y3 y4 y5 y6 y7 y8 y9 y10 y11 y12 y13 y14 y15
   unfold l14_awake.j1
   repeat' first
   | (with_reducible exact ih0 _ _ _ _ _ _ _ _)
   | (with_reducible exact ih1 _ _ _ _ _ _ _ _ _ _ _ _ _ _ _ _)
   | (with_reducible exact bottom_Add.mono _ _ _ _ _ _ _)
   | (with_reducible exact bottom_Cut.mono _ _ _ _ _ _)
   | (with_reducible exact bottom_Merge.mono _ _ _ _ _ _ _ _ _)
   | (with_reducible exact bottom_Right.mono _ _ _ _ _)
   | (with_reducible exact bottom_Threshold.mono _ _ _ _ _)
   | (with_reducible exact LeO.refl _)
   | (with_reducible exact LeO.none _)
   | (with_reducible refine LeO.ite ?_ ?_)
   | (with_reducible refine LeO.bind ?_ (fun _ => ?_))
theorem l14_awake.mono : ∀ k, LeO (l14_awake.f k ) (l14_awake.f (k + 1) ) := by
 intro  k
 obtain ⟨ih0, ih1⟩ := l14_awake.mono_l k
 unfold l14_awake.f
 repeat' first
   | (with_reducible exact ih0 _ _ _ _ _ _ _ _)
   | (with_reducible exact ih1 _ _ _ _ _ _ _ _ _ _ _ _ _ _ _ _)
   | (with_reducible exact bottom_Add.mono _ _ _ _ _ _ _)
   | (with_reducible exact bottom_Cut.mono _ _ _ _ _ _)
   | (with_reducible exact bottom_Merge.mono _ _ _ _ _ _ _ _ _)
   | (with_reducible exact bottom_Right.mono _ _ _ _ _)
   | (with_reducible exact bottom_Threshold.mono _ _ _ _ _)
   | (with_reducible exact LeO.refl _)
   | (with_reducible exact LeO.none _)
   | (with_reducible refine LeO.ite ?_ ?_)
   | (with_reducible refine LeO.bind ?_ (fun _ => ?_))
def l14_awake.T16 : Bool × List (List Nat × List Nat) := (true, [([], []), ([0], [0]), ([1], [1]), ([2], [2]), ([3, 2], [2, 3]), ([2, 4], [2, 4]), ([5, 2], [5]), ([6], [6]), ([7, 6], [6, 7]), ([6, 8], [6, 8]), ([9, 6], [9]), ([10], [10]), ([11, 10], [10, 11]), ([12, 10], [10, 12]), ([13, 10], [10, 13]), ([10, 14], [10, 14]), ([15, 10], [15]), ([16], [16]), ([17, 16], [16, 17]), ([18, 16], [16, 18]), ([19, 16], [16, 19]), ([20, 16], [16, 20]), ([16], [16]), ([22, 16], [16, 22]), ([23, 16], [16, 23]), ([24, 16], [16, 24]), ([25, 16], [16, 25]), ([21, 26, 16], [16, 21, 26]), ([16, 27], [16, 27]), ([28, 16], [28]), ([29], [29]), ([30, 29], [29, 30]), ([31, 29], [29, 31]), ([32, 29], [29, 32]), ([33, 29], [29, 33]), ([34, 29], [29, 34]), ([29], [29]), ([36, 29], [29, 36]), ([37, 29], [29, 37]), ([38, 29], [29, 38]), ([39, 29], [29, 39]), ([40, 29], [29, 40]), ([41, 29], [29, 41]), ([35, 42, 29], [29, 35, 42]), ([29, 43], [29, 43]), ([44, 29], [44]), ([45], [45]), ([46, 45], [45, 46]), ([47, 45], [45, 47]), ([48, 45], [45, 48]), ([49, 45], [45, 49]), ([50, 45], [45, 50]), ([51, 45], [45, 51]), ([45, 52], [45, 52]), ([53, 45], [53]), ([54], [54]), ([54, 55], [54, 55]), ([56, 54], [56]), ([57], [57]), ([58, 57], [57, 58]), ([57, 59], [57, 59]), ([60, 57], [60]), ([61], [61]), ([62, 61, 61], [61, 62]), ([61, 63], [61, 63]), ([64, 63, 0, 1, 2, 3, 4, 5, 6, 7, 8, 9, 10, 11, 12, 13, 14, 15, 16, 17, 18, 19, 20, 21, 22, 23, 24, 25, 26, 27, 28, 29, 30, 31, 32, 33, 34, 35, 36, 37, 38, 39, 40, 41, 42, 43, 44, 45, 46, 47, 48, 49, 50, 51, 52, 53, 54, 55, 56, 57, 58, 59, 60, 61, 62, 63, 64], [64])])
def l14_awake.B16 : List Nat := [0, 1, 3, 7, 15, 31, 63, 127, 255, 511, 1023, 2047, 4095, 8191, 16383, 32767, 65535, 131071, 262143, 524287, 1048575, 2097151, 131071, 4325375, 12713983, 29491199, 63045631, 134217727, 268435455, 536870911, 1073741823, 2147483647, 4294967295, 8589934591, 17179869183, 34359738367, 1073741823, 69793218559, 207232172031, 482110078975, 1031865892863, 2131377520639, 4330400776191, 8796093022207, 17592186044415, 35184372088831, 70368744177663, 140737488355327, 281474976710655, 562949953421311, 1125899906842623, 2251799813685247, 4503599627370495, 9007199254740991, 18014398509481983, 36028797018963967, 72057594037927935, 144115188075855871, 288230376151711743, 576460752303423487, 1152921504606846975, 2305843009213693951, 4611686018427387903, 9223372036854775807, 18446744073709551615, 36893488147419103231]
theorem l14_awake.tab16 : rtab .any (opsOf Try.f11 16) = l14_awake.T16 := by kernel_rfl
theorem l14_awake.bits16 : waitsOk l14_awake.T16.2 l14_awake.B16 = true := by kernel_rfl
set_option maxHeartbeats 8000000 in
set_option maxRecDepth 100000 in
theorem l14_awake.calls (k : Nat)  (r : Bool) (hrT : Aside0 (r = true)) (w : World) (h : l14_awake.f k  = some r) :
  Calls Try.prog 11 #[] w fun e w' => e = .returned (.bool r) ∧ Below w.heap.size w w' := by
 have hu24 := Try.underlying24;have hu27 := Try.underlying27;have HB := am (Below.refl w.heap.size w);have H : ((bottom_New.f 3 0 2).bind fun bt220 => ((some (([(⟨#[97]⟩ : ByteArray), (⟨#[98]⟩ : ByteArray), (⟨#[99]⟩ : ByteArray), (⟨#[100]⟩ : ByteArray), (⟨#[97]⟩ : ByteArray)] : List ByteArray) : List ByteArray)).bind fun ax => (l14_awake.l0 k bt220.2.2.2.2 ax (ax.length : Int) 0 bt220.1 bt220.2.1 bt220.2.2.1 bt220.2.2.2.1))) = some r := h;clear h;replace H := Option.bind_eq_some_iff.mp H;obtain ⟨⟨bq, bB, bH, bI, br⟩, eH, H⟩ := H
 try dsimp only at H
 have A1 := am eH;clear eH;obtain ⟨ax, hy228⟩ : ∃ y_ : List ByteArray, y_ = (([(⟨#[97]⟩ : ByteArray), (⟨#[98]⟩ : ByteArray), (⟨#[99]⟩ : ByteArray), (⟨#[100]⟩ : ByteArray), (⟨#[97]⟩ : ByteArray)] : List ByteArray)) := ⟨_, rfl⟩
 replace H : (l14_awake.l0 k br ax (ax.length : Int) 0 bq bB bH bI) = some r := by first | (rw [hy228]; with_reducible exact H) | (have H2_ := (Option.bind_some _ _).symm.trans H; rw [hy228]; with_reducible exact H2_) | (have H2_ := (Option.bind_some _ _).symm.trans H; with_reducible exact H2_) | with_reducible exact H | (rw [hy228]; exact H) | exact H
 have Ny228 := am hy228;clear hy228;have H' := am H;clear H
 go_enter Try.func11, Try.ntmps11
 go_wp2_with (first | ((with_reducible refine gate_callee (f := 16) rfl ?_); refine gl (some 17) Try.func16 #[.agg #[.int .u64 3, .int .u64 0], .int .i64 2] ?_; (with_reducible refine (bottom_New.calls 3 0 2 bq bB bH bI br _ A1.out).mono ?_); rintro e w2 ⟨gB, rfl, aZ, hb⟩; refine ⟨_, rfl, ?_⟩; have bw := am (Kd.V_lower (Kd.V_mono (ok' := fun k_ => True) aZ (fun k_ hk_ => trivial)) (below_size (pb HB))); replace HB := lb HB hb; (try clear hb); (try clear hb2); (try clear hk); (try clear hi); (try clear aZ)) | ((with_reducible refine gate_dst (N := 1) rfl ?_); (try (refine gate_guard (by rfl) ?_; dsimp only)); refine be 1 #[.int .u64 0, .int .u64 0, .int .i64 0, .slice none 0 0] 27 ?_; intro ak hg w3 hbox hb; replace bw := ve bw hg hb; have ae := am (hbox); have fy := gq hg HB; have fA := gq hg HB; replace HB := lb HB hb; clear hb hbox hg; obtain ⟨b1, b2, b3, b4, b5, b6, b7, b8⟩ := g4 ae; obtain ⟨d7, d8, fn⟩ := Kd.V_slice bw.out; subst fn) | ((with_reducible refine gate_dst (N := 20) rfl ?_); (try (refine gate_guard (by rfl) ?_; dsimp only)); refine Kd.R_lit Kd.string _ 9 ?hg (N := 20) ?hd (xs := ([(⟨#[97]⟩ : ByteArray), (⟨#[98]⟩ : ByteArray), (⟨#[99]⟩ : ByteArray), (⟨#[100]⟩ : ByteArray), (⟨#[97]⟩ : ByteArray)] : List ByteArray)) (inner := [.string (⟨#[97]⟩ : ByteArray), .string (⟨#[98]⟩ : ByteArray), .string (⟨#[99]⟩ : ByteArray), .string (⟨#[100]⟩ : ByteArray), .string (⟨#[97]⟩ : ByteArray)]) (ok := fun _ => True) (okp := fun _ => True) ?hr ?hp (fun _ hk => hk) trivial (Below.refl _ _) (Nat.le_refl _) (by simp) ?_; (case hd => rfl); (case hg => rfl); (case hr => first | (go_simp; done) | (go_simp; rfl)); (case hp => exact (Reps.one (show Kd.M Kd.string _ _ _ (⟨#[97]⟩ : ByteArray) [.string (⟨#[97]⟩ : ByteArray)] from rfl) (Reps.one (show Kd.M Kd.string _ _ _ (⟨#[98]⟩ : ByteArray) [.string (⟨#[98]⟩ : ByteArray)] from rfl) (Reps.one (show Kd.M Kd.string _ _ _ (⟨#[99]⟩ : ByteArray) [.string (⟨#[99]⟩ : ByteArray)] from rfl) (Reps.one (show Kd.M Kd.string _ _ _ (⟨#[100]⟩ : ByteArray) [.string (⟨#[100]⟩ : ByteArray)] from rfl) (Reps.one (show Kd.M Kd.string _ _ _ (⟨#[97]⟩ : ByteArray) [.string (⟨#[97]⟩ : ByteArray)] from rfl) (Reps.none _ _))))))); intro gC w6 bV hb hg_ hnew_; clear hg_ hnew_; (first | rw [← Ny228.out] at bV | (simp only [Int.reduceToNat] at bV; rw [← Ny228.out] at bV)); replace bw := am (Kd.V_elder' (pv ((Kd.V_mono (Kd.V_far (p := ⟨ak, 3, none⟩) (Kd.V_far (p := ⟨ak, 2, none⟩) (Kd.V_far (p := ⟨ak, 1, none⟩) (Kd.V_far (p := ⟨ak, 0, none⟩) (Kd.V_mono bw.out (fun k_ hk => (⟨hk, hk.2⟩ : _ ∧ k_ ≠ ak))) (fun _ hk => hk.2) (.int .u64 bq)) (fun _ hk => hk.2) (.int .u64 bB)) (fun _ hk => hk.2) (.int .i64 bH)) (fun _ hk => hk.2) (.slice d7 bI.length d8)) (fun _ h_ => h_.1)))) (Kd.R_base bV) hb); have cv := am (Kd.R_lower bV (below_size (pb HB))); replace ae := am (blk_below (g := ak) (o := .cells #[.int .u64 bq, .int .u64 bB, .int .i64 bH, .slice d7 bI.length d8] 27 (0, 0)) (by refine pk ?_; refine blk_put (cs := #[.int .u64 bq, .int .u64 bB, .int .i64 bH, .slice none 0 0]) ?_ 3 _ rfl; refine pk ?_; refine blk_put (cs := #[.int .u64 bq, .int .u64 bB, .int .i64 0, .slice none 0 0]) ?_ 2 _ rfl; refine pk ?_; refine blk_put (cs := #[.int .u64 bq, .int .u64 0, .int .i64 0, .slice none 0 0]) ?_ 1 _ rfl; refine pk ?_; refine blk_put (cs := #[.int .u64 0, .int .u64 0, .int .i64 0, .slice none 0 0]) ?_ 0 _ rfl; refine pk ?_; exact ae.out) hb); replace HB := lb HB hb; clear hb bV; obtain ⟨bW, bM, fo⟩ := Kd.R_slice cv.out; subst fo))
 go_loopg [22] k (fun kq fp w' => ∃ (aC : Int) (ai : Int) (ag : Int) (af : Int) (aa : List (S62)) (bJ : Value), fp = .int .i64 aC ∧ Aside0 (l14_awake.l0 kq br ax (ax.length : Int) aC ai ag af aa = some r) ∧ Aside0 (kq ≤ k) ∧ Aside0 (Kd.R Kd.string 9 w' w.heap.size (fun _ => True) (.slice bW ax.length bM) ax) ∧ Aside0 (Kd.V k62 62 w' w.heap.size (fun k_ => some k_ ≠ ((.slice bW ax.length bM) : Value).ownBlock ∧ k_ ≠ ak) bJ aa) ∧ Aside0 (w'.heap[ak]? = some (.cells #[.int .u64 ai, .int .u64 ag, .int .i64 af, bJ] 27 (0, 0))) ∧ Aside0 (Below w.heap.size w w'))
 case atStart => exact ⟨(0), (bq), (bB), (bH), (bI), (.slice d7 bI.length d8), (by first | rfl | (simp; done) | (simp [*]; done)), H', ⟨Nat.le_refl _⟩, ⟨pr cv.out⟩, ⟨by refine pv ?_; exact Kd.V_mono bw.out (fun _ hk => ⟨hk.2, hk.1.2⟩)⟩, ⟨pk ae.out⟩, ⟨pb HB⟩⟩
 case round =>
  clear H';(try clear c1);(try clear p2);(try clear b1 b2 b3 b4 b5 b6 b7 b8);obtain ⟨aC, ai, ag, af, aa, bJ, rfl, HA, HK1, az, ac, ae, HB⟩ := hrel
  cases gk with
  | zero => exact absurd HA.out (by simp [l14_awake.l0])
  | succ k1 =>
   have H := HA.out;clear HA
   simp only [l14_awake.l0] at H
   by_cases c9 : aC < (ax.length : Int)
   ·rw [if_pos c9] at H;have d9 : decide (aC < (ax.length : Int)) = true := decide_eq_true c9;clear c9
    by_cases c10 : 0 ≤ aC
    ·rw [if_pos c10] at H;have ef : decide (0 ≤ aC) = true := decide_eq_true c10;clear c10
     by_cases b9 : aC < (ax.length : Int)
     ·rw [if_pos b9] at H;have eg : decide (aC < (ax.length : Int)) = true := decide_eq_true b9;clear b9;replace H := Option.bind_eq_some_iff.mp H;obtain ⟨⟨bp, bs, bC, bD, bY⟩, d_, H⟩ := H
      try dsimp only at H
      have fq := am d_;clear d_
      by_cases bX : bY = 0
      ·rw [if_pos bX] at H;have eh : (bY == 0) = true := beq_iff_eq.mpr bX;have ei : (bY != 0) = false := bne_eq_false_iff_eq.mpr bX;clear bX;have H' := am H;clear H;have bZ : 0 ≤ (aC : Int) := of_decide_eq_true (by first | (with_reducible assumption) | assumption);have b0 : aC < (ax.length : Int) := of_decide_eq_true (by first | (with_reducible assumption) | assumption);obtain ⟨cw, eM, cE⟩ := Kd.at_string (Kd.R_reads' az.out).2.2 aC bZ b0;cases eM;replace bZ := eq_true bZ;replace b0 := eq_true b0;obtain ⟨cF, cG, cH, cI, cJ, cK, cL, cM⟩ := g4 ae;obtain ⟨bP, bQ, eN⟩ := Kd.V_slice ac.out;subst eN
       go_wp2_with (first | ((with_reducible refine gate_callee (f := 17) rfl ?_); refine gl (some 29) Try.func17 #[.agg #[.int .u64 ai, .int .u64 ag, .int .i64 af, .slice bP aa.length bQ], .string (rdOf ByteArray.empty ax aC), .int .u64 5] ?_; (with_reducible refine (bottom_Add.calls k1 ai ag af (fun k_ => (some k_ ≠ (.slice (some cw) ax.length bM : Value).ownBlock ∧ k_ ≠ ak)) _ _ aa (rdOf ByteArray.empty ax aC) 5 bp bs bC bD bY _ ?side1 fq.out).mono ?_); (case side1 => exact ac.out); rintro e gI ⟨gD, rfl, aZ, hb⟩; refine ⟨_, rfl, ?_⟩; replace ac := vb ac hb; have bO := am (Kd.V_lower (Kd.V_mono (ok' := fun k_ => some k_ ≠ (.slice (some cw) ax.length bM : Value).ownBlock ∧ k_ ≠ ak) aZ (fun k_ hk_ => ⟨Or.elim hk_ (fun hs_ => hs_.1) (fun hn_ => (nr az k_ hn_)), Or.elim hk_ (fun hs_ => hs_.2) (fun hn_ => (nb ae k_ hn_))⟩)) (below_size (pb HB))); replace az := rb az hb; replace ae := kb ae hb; replace HB := lb HB hb; (try clear hb); (try clear hb2); (try clear hk); (try clear hi); (try clear aZ)) | ((with_reducible refine gate_dst (N := 5) rfl ?_); (try (refine gate_guard (by rfl) ?_; dsimp only)); refine be 5 #[.int .u64 0, .int .u64 0, .int .i64 0, .slice none 0 0] 27 ?_; intro aS hg gJ hbox hb; replace az := rb az hb; replace ac := ve ac hg hb; replace bO := ve bO hg hb; have cx := am (hbox); have fB := gq hg HB; have fC := gq hg HB; replace HB := lb HB hb; obtain ⟨a0, eI, fD, fE⟩ := pm hg ae; replace ae := kb ae hb; clear hb hbox hg; obtain ⟨cN, cO, cP, cQ, cR, cS, cT, cU⟩ := g4 cx; obtain ⟨bR, bS, eO⟩ := Kd.V_slice bO.out; subst eO; obtain ⟨cV, cW, cX, cY, cZ, c0, c_, da⟩ := g4 ae))
       go_roundg k1
       case measure => have := HK1.out; omega
       case rel => exact ⟨(wrap64 (aC + 1)), (bp), (bs), (bC), (bD), (.slice bR bD.length bS), (by first | rfl | (simp; done) | (simp [*]; done)), H', ⟨by have := HK1.out; omega⟩, ⟨by refine pr ?_; exact Kd.R_mono (Kd.R_far (p := ⟨ak, 3, none⟩) (Kd.R_far (p := ⟨ak, 2, none⟩) (Kd.R_far (p := ⟨ak, 1, none⟩) (Kd.R_far (p := ⟨ak, 0, none⟩) (Kd.R_far (p := ⟨aS, 3, none⟩) (Kd.R_far (p := ⟨aS, 2, none⟩) (Kd.R_far (p := ⟨aS, 1, none⟩) (Kd.R_far (p := ⟨aS, 0, none⟩) (Kd.R_types (Kd.R_types az.out cx.out (by decide)) ae.out (by decide)) (fun _ hk => hk.1.2) (.int .u64 bp)) (fun _ hk => hk.1.2) (.int .u64 bs)) (fun _ hk => hk.1.2) (.int .i64 bC)) (fun _ hk => hk.1.2) (.slice bR bD.length bS)) (fun _ hk => hk.2) (.int .u64 bp)) (fun _ hk => hk.2) (.int .u64 bs)) (fun _ hk => hk.2) (.int .i64 bC)) (fun _ hk => hk.2) (.slice bR bD.length bS)) (fun _ hk => trivial)⟩, ⟨by refine pv ?_; exact Kd.V_mono (Kd.V_far (p := ⟨ak, 3, none⟩) (Kd.V_far (p := ⟨ak, 2, none⟩) (Kd.V_far (p := ⟨ak, 1, none⟩) (Kd.V_far (p := ⟨ak, 0, none⟩) (Kd.V_far (p := ⟨aS, 3, none⟩) (Kd.V_far (p := ⟨aS, 2, none⟩) (Kd.V_far (p := ⟨aS, 1, none⟩) (Kd.V_far (p := ⟨aS, 0, none⟩) (Kd.V_mono (Kd.V_mono bO.out (fun k_ hk => (⟨hk, hk.2⟩ : _ ∧ k_ ≠ aS))) (fun k_ hk => (⟨hk, hk.1.1.2⟩ : _ ∧ k_ ≠ ak))) (fun _ hk => hk.1.2) (.int .u64 bp)) (fun _ hk => hk.1.2) (.int .u64 bs)) (fun _ hk => hk.1.2) (.int .i64 bC)) (fun _ hk => hk.1.2) (.slice bR bD.length bS)) (fun _ hk => hk.2) (.int .u64 bp)) (fun _ hk => hk.2) (.int .u64 bs)) (fun _ hk => hk.2) (.int .i64 bC)) (fun _ hk => hk.2) (.slice bR bD.length bS)) (fun _ hk => ⟨hk.1.1.1.1, hk.1.1.1.2⟩)⟩, ⟨by refine pk ?_; refine blk_put (cs := #[.int .u64 bp, .int .u64 bs, .int .i64 bC, .slice bP aa.length bQ]) ?_ 3 _ rfl; refine pk ?_; refine blk_put (cs := #[.int .u64 bp, .int .u64 bs, .int .i64 af, .slice bP aa.length bQ]) ?_ 2 _ rfl; refine pk ?_; refine blk_put (cs := #[.int .u64 bp, .int .u64 ag, .int .i64 af, .slice bP aa.length bQ]) ?_ 1 _ rfl; refine pk ?_; refine blk_put (cs := #[.int .u64 ai, .int .u64 ag, .int .i64 af, .slice bP aa.length bQ]) ?_ 0 _ rfl; refine pk ?_; refine blk_far ?_ a0.out _; refine pk ?_; refine blk_far ?_ a0.out _; refine pk ?_; refine blk_far ?_ a0.out _; refine pk ?_; refine blk_far ?_ a0.out _; refine pk ?_; exact ae.out⟩, ⟨pb HB⟩⟩
      ·rw [if_neg bX] at H
       exact Bool.noConfusion ((Option.some.inj H).trans hrT.out)
     ·rw [if_neg b9] at H;exact absurd H (by simp)
    ·rw [if_neg c10] at H;exact absurd H (by simp)
   ·rw [if_neg c9] at H;have d9 : decide (aC < (ax.length : Int)) = false := decide_eq_false c9;clear c9;replace H := Option.bind_eq_some_iff.mp H;obtain ⟨⟨ay, aD, aG, ao, bK⟩, ea, H⟩ := H
    try dsimp only at H
    have fr := am ea;clear ea;replace H := Option.bind_eq_some_iff.mp H;obtain ⟨⟨aJ, aN, aP, aE, bL⟩, eb, H⟩ := H
    try dsimp only at H
    have fs := am eb;clear eb;have ci := am H;clear H;obtain ⟨db, dc, dd, de, df, dg, dh, di⟩ := g4 ae;obtain ⟨aV, aQ, eP⟩ := Kd.V_slice ac.out;subst eP
    go_upto_region 12 with (first | ((with_reducible refine gate_callee (f := 12) rfl ?_); refine gl (some 39) Try.func12 #[.agg #[.int .u64 ai, .int .u64 ag, .int .i64 af, .slice aV aa.length aQ], .agg #[.int .u64 ai, .int .u64 ag, .int .i64 af, .slice aV aa.length aQ]] ?_; (with_reducible refine (bottom_Merge.calls k1 ai ag af (fun k_ => (some k_ ≠ (.slice bW ax.length bM : Value).ownBlock ∧ k_ ≠ ak)) _ _ aa ai ag af _ _ aa ay aD aG ao bK _ ?side1 ?side2 ?side3 fr.out).mono ?_); (case side1 => exact ac.out); (case side2 => repeat (first | exact (Kd.V_reads' ac.out).2.2 | (with_reducible refine Kd.C_alloc ?_ _) | (with_reducible refine Kd.C_drewN ?_ _) | (with_reducible refine Kd.C_drew ?_))); (case side3 => exact (Kd.V_reads' ac.out).2.1); rintro e gK ⟨gE, rfl, aZ, hb⟩; refine ⟨_, rfl, ?_⟩; replace ac := vb ac hb; have aT := am (Kd.V_lower (Kd.V_mono (ok' := fun k_ => some k_ ≠ (.slice bW ax.length bM : Value).ownBlock ∧ k_ ≠ ak) aZ (fun k_ hk_ => ⟨Or.elim hk_ (fun hs_ => hs_.1) (fun hn_ => (nr az k_ hn_)), Or.elim hk_ (fun hs_ => hs_.2) (fun hn_ => (nb ae k_ hn_))⟩)) (below_size (pb HB))); replace az := rb az hb; replace ae := kb ae hb; replace HB := lb HB hb; (try clear hb); (try clear hb2); (try clear hk); (try clear hi); (try clear aZ)) | ((with_reducible refine gate_dst (N := 7) rfl ?_); (try (refine gate_guard (by rfl) ?_; dsimp only)); refine be 7 #[.int .u64 0, .int .u64 0, .int .i64 0, .slice none 0 0] 27 ?_; intro aj hg gL hbox hb; replace az := rb az hb; replace ac := ve ac hg hb; replace aT := ve aT hg hb; have an := am (hbox); have fF := gq hg HB; have fG := gq hg HB; replace HB := lb HB hb; obtain ⟨av, bu, fH, fI⟩ := pm hg ae; replace ae := kb ae hb; clear hb hbox hg; obtain ⟨dj, dk, dl, dm, dn, dp, dq, dr⟩ := g4 an; obtain ⟨aW, aR, eQ⟩ := Kd.V_slice aT.out; subst eQ; obtain ⟨dt, du, dv, dw, dx, dy, dz, dA⟩ := g4 ae) | ((with_reducible refine gate_callee (f := 20) rfl ?_); refine gl (some 44) Try.func20 #[.agg #[.int .u64 ai, .int .u64 ag, .int .i64 af, .slice aV aa.length aQ], .int .i64 1] ?_; (with_reducible refine (bottom_Cut.calls k1 ai ag af _ _ aa 1 aJ aN aP aE bL _ ?side1 ?side2 fs.out).mono ?_); (case side1 => refine (Kd.V_reads' (e := 62) (base := w.heap.size) (ok := fun k_ => ((some k_ ≠ (.slice bW ax.length bM : Value).ownBlock ∧ k_ ≠ ak) ∧ k_ ≠ aj)) (n := aa.length) (c := aQ) ?_).2.2; exact (pv ((Kd.V_mono (Kd.V_far (p := ⟨aj, 3, none⟩) (Kd.V_far (p := ⟨aj, 2, none⟩) (Kd.V_far (p := ⟨aj, 1, none⟩) (Kd.V_far (p := ⟨aj, 0, none⟩) (Kd.V_mono ac.out (fun k_ hk => (⟨hk, hk.2⟩ : _ ∧ k_ ≠ aj))) (fun _ hk => hk.2) (.int .u64 ay)) (fun _ hk => hk.2) (.int .u64 aD)) (fun _ hk => hk.2) (.int .i64 aG)) (fun _ hk => hk.2) (.slice aW ao.length aR)) (fun _ h_ => h_.1))))); (case side2 => exact (Kd.V_reads' ac.out).2.1); rintro e gM ⟨gF, rfl, aZ, hb⟩; refine ⟨_, rfl, ?_⟩; replace ac := am (Kd.V_below (pv ((Kd.V_mono (Kd.V_far (p := ⟨aj, 3, none⟩) (Kd.V_far (p := ⟨aj, 2, none⟩) (Kd.V_far (p := ⟨aj, 1, none⟩) (Kd.V_far (p := ⟨aj, 0, none⟩) (Kd.V_mono ac.out (fun k_ hk => (⟨hk, hk.2⟩ : _ ∧ k_ ≠ aj))) (fun _ hk => hk.2) (.int .u64 ay)) (fun _ hk => hk.2) (.int .u64 aD)) (fun _ hk => hk.2) (.int .i64 aG)) (fun _ hk => hk.2) (.slice aW ao.length aR)) (fun _ h_ => h_.1)))) hb); replace aT := am (Kd.V_below (pv ((Kd.V_mono (Kd.V_far (p := ⟨aj, 3, none⟩) (Kd.V_far (p := ⟨aj, 2, none⟩) (Kd.V_far (p := ⟨aj, 1, none⟩) (Kd.V_far (p := ⟨aj, 0, none⟩) (Kd.V_mono aT.out (fun k_ hk => (⟨hk, hk.2⟩ : _ ∧ k_ ≠ aj))) (fun _ hk => hk.2) (.int .u64 ay)) (fun _ hk => hk.2) (.int .u64 aD)) (fun _ hk => hk.2) (.int .i64 aG)) (fun _ hk => hk.2) (.slice aW ao.length aR)) (fun _ h_ => h_.1)))) hb); have bF := am (Kd.V_lower (Kd.V_mono (ok' := fun k_ => some k_ ≠ (.slice bW ax.length bM : Value).ownBlock ∧ k_ ≠ ak ∧ k_ ≠ aj) aZ (fun k_ hk_ => ⟨(Kd.fresh' (Kd.R_lt (pr ((Kd.R_mono (Kd.R_far (p := ⟨aj, 3, none⟩) (Kd.R_far (p := ⟨aj, 2, none⟩) (Kd.R_far (p := ⟨aj, 1, none⟩) (Kd.R_far (p := ⟨aj, 0, none⟩) (Kd.R_types az.out an.out (by decide)) (fun _ hk => hk.2) (.int .u64 ay)) (fun _ hk => hk.2) (.int .u64 aD)) (fun _ hk => hk.2) (.int .i64 aG)) (fun _ hk => hk.2) (.slice aW ao.length aR)) (fun _ h_ => h_.1))))) k_ hk_), (Kd.freshB (g := ak) (o := .cells #[.int .u64 ai, .int .u64 ag, .int .i64 af, .slice aV aa.length aQ] 27 (0, 0)) (by refine pk ?_; refine blk_far ?_ av.out _; refine pk ?_; refine blk_far ?_ av.out _; refine pk ?_; refine blk_far ?_ av.out _; refine pk ?_; refine blk_far ?_ av.out _; refine pk ?_; exact ae.out) k_ hk_), (Kd.freshB (g := aj) (o := .cells #[.int .u64 ay, .int .u64 aD, .int .i64 aG, .slice aW ao.length aR] 27 (0, 0)) (by refine pk ?_; refine blk_put (cs := #[.int .u64 ay, .int .u64 aD, .int .i64 aG, .slice none 0 0]) ?_ 3 _ rfl; refine pk ?_; refine blk_put (cs := #[.int .u64 ay, .int .u64 aD, .int .i64 0, .slice none 0 0]) ?_ 2 _ rfl; refine pk ?_; refine blk_put (cs := #[.int .u64 ay, .int .u64 0, .int .i64 0, .slice none 0 0]) ?_ 1 _ rfl; refine pk ?_; refine blk_put (cs := #[.int .u64 0, .int .u64 0, .int .i64 0, .slice none 0 0]) ?_ 0 _ rfl; refine pk ?_; exact an.out) k_ hk_)⟩)) (below_size (pb HB))); replace az := am (Kd.R_below (pr ((Kd.R_mono (Kd.R_far (p := ⟨aj, 3, none⟩) (Kd.R_far (p := ⟨aj, 2, none⟩) (Kd.R_far (p := ⟨aj, 1, none⟩) (Kd.R_far (p := ⟨aj, 0, none⟩) (Kd.R_types az.out an.out (by decide)) (fun _ hk => hk.2) (.int .u64 ay)) (fun _ hk => hk.2) (.int .u64 aD)) (fun _ hk => hk.2) (.int .i64 aG)) (fun _ hk => hk.2) (.slice aW ao.length aR)) (fun _ h_ => h_.1)))) hb); replace ae := am (blk_below (g := ak) (o := .cells #[.int .u64 ai, .int .u64 ag, .int .i64 af, .slice aV aa.length aQ] 27 (0, 0)) (by refine pk ?_; refine blk_far ?_ av.out _; refine pk ?_; refine blk_far ?_ av.out _; refine pk ?_; refine blk_far ?_ av.out _; refine pk ?_; refine blk_far ?_ av.out _; refine pk ?_; exact ae.out) hb); replace an := am (blk_below (g := aj) (o := .cells #[.int .u64 ay, .int .u64 aD, .int .i64 aG, .slice aW ao.length aR] 27 (0, 0)) (by refine pk ?_; refine blk_put (cs := #[.int .u64 ay, .int .u64 aD, .int .i64 aG, .slice none 0 0]) ?_ 3 _ rfl; refine pk ?_; refine blk_put (cs := #[.int .u64 ay, .int .u64 aD, .int .i64 0, .slice none 0 0]) ?_ 2 _ rfl; refine pk ?_; refine blk_put (cs := #[.int .u64 ay, .int .u64 0, .int .i64 0, .slice none 0 0]) ?_ 1 _ rfl; refine pk ?_; refine blk_put (cs := #[.int .u64 0, .int .u64 0, .int .i64 0, .slice none 0 0]) ?_ 0 _ rfl; refine pk ?_; exact an.out) hb); replace HB := lb HB hb; (try clear hb); (try clear hb2); (try clear hk); (try clear hi); (try clear aZ)) | ((with_reducible refine gate_dst (N := 9) rfl ?_); (try (refine gate_guard (by rfl) ?_; dsimp only)); refine be 9 #[.int .u64 0, .int .u64 0, .int .i64 0, .slice none 0 0] 27 ?_; intro ah hg gN hbox hb; replace az := rb az hb; replace ac := ve ac hg hb; replace aT := ve aT hg hb; replace bF := ve bF hg hb; have aq := am (hbox); have fJ := gq hg HB; have fK := gq hg HB; replace HB := lb HB hb; obtain ⟨aw, bv, fL, fM⟩ := pm hg ae; replace ae := kb ae hb; obtain ⟨aA, b_, fN, fO⟩ := pm hg an; replace an := kb an hb; clear hb hbox hg; obtain ⟨dB, dC, dD, dE, dF, dG, dH, dI⟩ := g4 aq; obtain ⟨aX, aY, eR⟩ := Kd.V_slice bF.out; subst eR))
    (try simp only [Act.put, List.setIfInBounds_toArray, List.set_cons_zero, List.set_cons_succ])
    go_cut [56] (fun ft wc => ∃ (kq : Nat) (bG : Bool), ft = .bool bG ∧ Aside0 (l14_awake.j1 kq br bK bL bG ai ag af aa ay aD aG ao aJ aN aP aE = some r) ∧ Aside0 (kq ≤ k1) ∧ Aside0 (Kd.V k62 62 wc w.heap.size (fun k_ => k_ ≠ ak ∧ k_ ≠ aj ∧ k_ ≠ ah) (.slice aV aa.length aQ) aa) ∧ Aside0 (Kd.V k62 62 wc w.heap.size (fun k_ => k_ ≠ ak ∧ k_ ≠ aj ∧ k_ ≠ ah) (.slice aW ao.length aR) ao) ∧ Aside0 (Kd.V k62 62 wc w.heap.size (fun k_ => k_ ≠ ak ∧ k_ ≠ aj ∧ k_ ≠ ah) (.slice aX aE.length aY) aE) ∧ Aside0 (wc.heap[ak]? = some (.cells #[.int .u64 ai, .int .u64 ag, .int .i64 af, (.slice aV aa.length aQ)] 27 (0, 0))) ∧ Aside0 (wc.heap[aj]? = some (.cells #[.int .u64 ay, .int .u64 aD, .int .i64 aG, (.slice aW ao.length aR)] 27 (0, 0))) ∧ Aside0 (wc.heap[ah]? = some (.cells #[.int .u64 aJ, .int .u64 aN, .int .i64 aP, (.slice aX aE.length aY)] 27 (0, 0))) ∧ Aside0 (Below w.heap.size w wc))
    case first =>
     have H := ci.out;clear ci
     by_cases bN : (aa.length : Int) = 3
     ·rw [if_pos bN] at H;have bz : ((aa.length : Int) == 3) = true := beq_iff_eq.mpr bN;have cy : ((aa.length : Int) != 3) = false := bne_eq_false_iff_eq.mpr bN;clear bN
      (first | rw [bz] | (simp only [i64_w, i32_w]; rw [bz]) | skip)
      have H' := am H;clear H;have fP := av.out;have fQ := bu.out;have fR := aw.out;have fS := bv.out;obtain ⟨dJ, dK, dL, dM, dN, dO, dP, dQ⟩ := g4 ae;have fT := aA.out;have fU := b_.out;obtain ⟨dR, dS, dT, dU, dV, dW, dX, dY⟩ := g4 an
      go_wp2
      go_meet
      case rel => exact ⟨_, (((ao.length : Int) != 3)), (by first | rfl | (simp; done) | (simp [*]; done)), H', ⟨by have := HK1.out; first | omega | exact Nat.le_refl _⟩, ⟨by refine pv ?_; exact Kd.V_mono (Kd.V_far (p := ⟨ah, 3, none⟩) (Kd.V_far (p := ⟨ah, 2, none⟩) (Kd.V_far (p := ⟨ah, 1, none⟩) (Kd.V_far (p := ⟨ah, 0, none⟩) (Kd.V_mono ac.out (fun k_ hk => (⟨hk, hk.2⟩ : _ ∧ k_ ≠ ah))) (fun _ hk => hk.2) (.int .u64 aJ)) (fun _ hk => hk.2) (.int .u64 aN)) (fun _ hk => hk.2) (.int .i64 aP)) (fun _ hk => hk.2) (.slice aX aE.length aY)) (fun _ hk => ⟨hk.1.1.1.2, ⟨hk.1.1.2, hk.1.2⟩⟩)⟩, ⟨by refine pv ?_; exact Kd.V_mono (Kd.V_far (p := ⟨ah, 3, none⟩) (Kd.V_far (p := ⟨ah, 2, none⟩) (Kd.V_far (p := ⟨ah, 1, none⟩) (Kd.V_far (p := ⟨ah, 0, none⟩) (Kd.V_mono aT.out (fun k_ hk => (⟨hk, hk.2⟩ : _ ∧ k_ ≠ ah))) (fun _ hk => hk.2) (.int .u64 aJ)) (fun _ hk => hk.2) (.int .u64 aN)) (fun _ hk => hk.2) (.int .i64 aP)) (fun _ hk => hk.2) (.slice aX aE.length aY)) (fun _ hk => ⟨hk.1.1.1.2, ⟨hk.1.1.2, hk.1.2⟩⟩)⟩, ⟨by refine pv ?_; exact Kd.V_mono (Kd.V_far (p := ⟨ah, 3, none⟩) (Kd.V_far (p := ⟨ah, 2, none⟩) (Kd.V_far (p := ⟨ah, 1, none⟩) (Kd.V_far (p := ⟨ah, 0, none⟩) (Kd.V_mono bF.out (fun k_ hk => (⟨hk, hk.2⟩ : _ ∧ k_ ≠ ah))) (fun _ hk => hk.2) (.int .u64 aJ)) (fun _ hk => hk.2) (.int .u64 aN)) (fun _ hk => hk.2) (.int .i64 aP)) (fun _ hk => hk.2) (.slice aX aE.length aY)) (fun _ hk => ⟨hk.1.1.2.1, ⟨hk.1.1.2.2, hk.1.2⟩⟩)⟩, ⟨by refine pk ?_; refine blk_far ?_ aw.out _; refine pk ?_; refine blk_far ?_ aw.out _; refine pk ?_; refine blk_far ?_ aw.out _; refine pk ?_; refine blk_far ?_ aw.out _; refine pk ?_; exact ae.out⟩, ⟨by refine pk ?_; refine blk_far ?_ aA.out _; refine pk ?_; refine blk_far ?_ aA.out _; refine pk ?_; refine blk_far ?_ aA.out _; refine pk ?_; refine blk_far ?_ aA.out _; refine pk ?_; exact an.out⟩, ⟨by refine pk ?_; refine blk_put (cs := #[.int .u64 aJ, .int .u64 aN, .int .i64 aP, .slice none 0 0]) ?_ 3 _ rfl; refine pk ?_; refine blk_put (cs := #[.int .u64 aJ, .int .u64 aN, .int .i64 0, .slice none 0 0]) ?_ 2 _ rfl; refine pk ?_; refine blk_put (cs := #[.int .u64 aJ, .int .u64 0, .int .i64 0, .slice none 0 0]) ?_ 1 _ rfl; refine pk ?_; refine blk_put (cs := #[.int .u64 0, .int .u64 0, .int .i64 0, .slice none 0 0]) ?_ 0 _ rfl; refine pk ?_; exact aq.out⟩, ⟨pb HB⟩⟩
     ·rw [if_neg bN] at H;have bz : ((aa.length : Int) == 3) = false := beq_eq_false_iff_ne.mpr bN;have cy : ((aa.length : Int) != 3) = true := bne_iff_ne.mpr bN
      (first | rw [bz] | (simp only [i64_w, i32_w]; rw [bz]) | skip)
      have H' := am H;clear H;have fV := av.out;have fW := bu.out;have fX := aw.out;have fY := bv.out;obtain ⟨dZ, d0, d1, d2, d3, d4, d5, d6⟩ := g4 ae
      go_wp2
      go_meet
      case rel => exact ⟨_, (true), (by first | rfl | (simp; done) | (simp [*]; done)), H', ⟨by have := HK1.out; first | omega | exact Nat.le_refl _⟩, ⟨by refine pv ?_; exact Kd.V_mono (Kd.V_far (p := ⟨ah, 3, none⟩) (Kd.V_far (p := ⟨ah, 2, none⟩) (Kd.V_far (p := ⟨ah, 1, none⟩) (Kd.V_far (p := ⟨ah, 0, none⟩) (Kd.V_mono ac.out (fun k_ hk => (⟨hk, hk.2⟩ : _ ∧ k_ ≠ ah))) (fun _ hk => hk.2) (.int .u64 aJ)) (fun _ hk => hk.2) (.int .u64 aN)) (fun _ hk => hk.2) (.int .i64 aP)) (fun _ hk => hk.2) (.slice aX aE.length aY)) (fun _ hk => ⟨hk.1.1.1.2, ⟨hk.1.1.2, hk.1.2⟩⟩)⟩, ⟨by refine pv ?_; exact Kd.V_mono (Kd.V_far (p := ⟨ah, 3, none⟩) (Kd.V_far (p := ⟨ah, 2, none⟩) (Kd.V_far (p := ⟨ah, 1, none⟩) (Kd.V_far (p := ⟨ah, 0, none⟩) (Kd.V_mono aT.out (fun k_ hk => (⟨hk, hk.2⟩ : _ ∧ k_ ≠ ah))) (fun _ hk => hk.2) (.int .u64 aJ)) (fun _ hk => hk.2) (.int .u64 aN)) (fun _ hk => hk.2) (.int .i64 aP)) (fun _ hk => hk.2) (.slice aX aE.length aY)) (fun _ hk => ⟨hk.1.1.1.2, ⟨hk.1.1.2, hk.1.2⟩⟩)⟩, ⟨by refine pv ?_; exact Kd.V_mono (Kd.V_far (p := ⟨ah, 3, none⟩) (Kd.V_far (p := ⟨ah, 2, none⟩) (Kd.V_far (p := ⟨ah, 1, none⟩) (Kd.V_far (p := ⟨ah, 0, none⟩) (Kd.V_mono bF.out (fun k_ hk => (⟨hk, hk.2⟩ : _ ∧ k_ ≠ ah))) (fun _ hk => hk.2) (.int .u64 aJ)) (fun _ hk => hk.2) (.int .u64 aN)) (fun _ hk => hk.2) (.int .i64 aP)) (fun _ hk => hk.2) (.slice aX aE.length aY)) (fun _ hk => ⟨hk.1.1.2.1, ⟨hk.1.1.2.2, hk.1.2⟩⟩)⟩, ⟨by refine pk ?_; refine blk_far ?_ aw.out _; refine pk ?_; refine blk_far ?_ aw.out _; refine pk ?_; refine blk_far ?_ aw.out _; refine pk ?_; refine blk_far ?_ aw.out _; refine pk ?_; exact ae.out⟩, ⟨by refine pk ?_; refine blk_far ?_ aA.out _; refine pk ?_; refine blk_far ?_ aA.out _; refine pk ?_; refine blk_far ?_ aA.out _; refine pk ?_; refine blk_far ?_ aA.out _; refine pk ?_; exact an.out⟩, ⟨by refine pk ?_; refine blk_put (cs := #[.int .u64 aJ, .int .u64 aN, .int .i64 aP, .slice none 0 0]) ?_ 3 _ rfl; refine pk ?_; refine blk_put (cs := #[.int .u64 aJ, .int .u64 aN, .int .i64 0, .slice none 0 0]) ?_ 2 _ rfl; refine pk ?_; refine blk_put (cs := #[.int .u64 aJ, .int .u64 0, .int .i64 0, .slice none 0 0]) ?_ 1 _ rfl; refine pk ?_; refine blk_put (cs := #[.int .u64 0, .int .u64 0, .int .i64 0, .slice none 0 0]) ?_ 0 _ rfl; refine pk ?_; exact aq.out⟩, ⟨pb HB⟩⟩
    case rest =>
     clear ci;(try clear c1);(try clear c2);(try clear p2);(try clear q2);(try clear hx2);(try clear c3);(try clear c4);(try clear c5);(try clear p6);(try clear c9);(try clear d9);(try clear c10);(try clear ef);(try clear b9);(try clear eg);(try clear c12);(try clear bX);(try clear eh);(try clear ei);(try clear c16);(try clear c17);(try clear c18);(try clear c20);(try clear p23);(try clear q23);(try clear hx23);(try clear c26);(try clear c36);(try clear c42);(try clear c43);(try clear bN);(try clear bz);(try clear cy);(try clear c47);(try clear c48);(try clear c50);(try clear c52);(try clear c53);(try clear cF cG cH cI);(try clear cN cO cP cQ);(try clear cV cW cX cY);(try clear hcz22_0 hcz22_1 hcz22_2 hcz22_3);(try clear hcz27_0 hcz27_1 hcz27_2 hcz27_3);(try clear db dc dd de);(try clear dj dk dl dm);(try clear dt du dv dw);(try clear dB dC dD dE);(try clear dJ dK dL dM);(try clear b1 b2 b3 b4);(try clear dR dS dT dU);(try clear dZ d0 d1 d2);(try clear cJ cK cL cM);(try clear cR cS cT cU);(try clear cZ c0 c_ da);(try clear hfz22_0 hfz22_1 hfz22_2 hfz22_3);(try clear hfz27_0 hfz27_1 hfz27_2 hfz27_3);(try clear df dg dh di);(try clear dn dp dq dr);(try clear dx dy dz dA);(try clear dF dG dH dI);(try clear dN dO dP dQ);(try clear b5 b6 b7 b8);(try clear dV dW dX dY);(try clear d3 d4 d5 d6);(try clear cE);(try clear p2);(try clear bZ);(try clear b0);obtain ⟨kq, bG, rfl, HA, gG, ac, ap, ar, ae, an, aq, HB⟩ := hcut
     cases kq with
     | zero => exact absurd HA.out (by simp [l14_awake.j1])
     | succ bE =>
      have H := HA.out;clear HA
      simp only [l14_awake.j1] at H
      by_cases cz : bG = true
      ·subst cz
       have H1 : (some false) = some r := by rw [if_pos rfl] at H; exact H
       clear H;have H := H1;clear H1;obtain rfl := Option.some.inj H
       go_wp2
       go_ret
       exact ⟨by first | rfl | (simp [errW_none, errW_some] <;> rfl) | (simp [*, errW_none, errW_some] <;> rfl), pb HB⟩
      ·replace cz := Bool.eq_false_iff.mpr cz;subst cz
       have H1 : ((bottom_Threshold.f bE ai ag af aa).bind fun bt256 => ((bottom_Add.f bE ai ag af aa (⟨#[97]⟩ : ByteArray) 0).bind fun bt258 => (if br = 0 then (if bK = 0 then (if bL = 0 then (if (aE.length : Int) = 2 then (if 0 < (ao.length : Int) then (if 0 < (aa.length : Int) then (if ((rd_T62 ao 0).f1) = ((rd_T62 aa 0).f1) then (if ((rd_T62 ao 0).f2.f1) = (IntKind.u64.wrap (2 * ((rd_T62 aa 0).f2.f1))) then (if ((rd_T62 aa 0).f2.f1) ≥ 5 then (if bt256.2 = true then (if bt258.2.2.2.2 = 7 then ((bottom_Right.f bE ay aD aG ao).bind fun bT => (some bT)) else (some false)) else (some false)) else (some false)) else (some false)) else (some false)) else (none)) else (none)) else (some false)) else (some false)) else (some false)) else (some false)))) = some r := by rw [if_neg (show ¬ (false = true) by decide)] at H; exact H
       clear H;have H := H1;clear H1;replace H := Option.bind_eq_some_iff.mp H;obtain ⟨⟨eS, eT⟩, ec, H⟩ := H
       try dsimp only at H
       have fu := am ec;clear ec;replace H := Option.bind_eq_some_iff.mp H;obtain ⟨⟨aF, aH, aK, aI, bU⟩, ed, H⟩ := H
       try dsimp only at H
       have fv := am ed;clear ed
       by_cases ca : br = 0
       ·rw [if_pos ca] at H;have fZ : (br == 0) = true := beq_iff_eq.mpr ca;have f3 : (br != 0) = false := bne_eq_false_iff_eq.mpr ca;clear ca
        by_cases cb : bK = 0
        ·rw [if_pos cb] at H;have f4 : (bK == 0) = true := beq_iff_eq.mpr cb;have f5 : (bK != 0) = false := bne_eq_false_iff_eq.mpr cb;clear cb
         by_cases cc : bL = 0
         ·rw [if_pos cc] at H;have f6 : (bL == 0) = true := beq_iff_eq.mpr cc;have f7 : (bL != 0) = false := bne_eq_false_iff_eq.mpr cc;clear cc
          by_cases cd : (aE.length : Int) = 2
          ·rw [if_pos cd] at H;have f8 : ((aE.length : Int) == 2) = true := beq_iff_eq.mpr cd;have f9 : ((aE.length : Int) != 2) = false := bne_eq_false_iff_eq.mpr cd;clear cd
           by_cases cA : 0 < (ao.length : Int)
           ·rw [if_pos cA] at H;have f_ : decide (0 < (ao.length : Int)) = true := decide_eq_true cA;have ga : decide (0 < ao.length) = true := decide_eq_true (by omega);clear cA
            by_cases cB : 0 < (aa.length : Int)
            ·rw [if_pos cB] at H;have gb : decide (0 < (aa.length : Int)) = true := decide_eq_true cB;have gc : decide (0 < aa.length) = true := decide_eq_true (by omega);clear cB
             by_cases cf : ((rd_T62 ao 0).f1) = ((rd_T62 aa 0).f1)
             ·rw [if_pos cf] at H;have ge : (((rd_T62 ao 0).f1) == ((rd_T62 aa 0).f1)) = true := beq_iff_eq.mpr cf;have gf : (((rd_T62 ao 0).f1) != ((rd_T62 aa 0).f1)) = false := bne_eq_false_iff_eq.mpr cf;clear cf
              by_cases cg : ((rd_T62 ao 0).f2.f1) = (IntKind.u64.wrap (2 * ((rd_T62 aa 0).f2.f1)))
              ·rw [if_pos cg] at H;have gg : (((rd_T62 ao 0).f2.f1) == (IntKind.u64.wrap (2 * ((rd_T62 aa 0).f2.f1)))) = true := beq_iff_eq.mpr cg;have gh : (((rd_T62 ao 0).f2.f1) != (IntKind.u64.wrap (2 * ((rd_T62 aa 0).f2.f1)))) = false := bne_eq_false_iff_eq.mpr cg;clear cg
               by_cases cC : ((rd_T62 aa 0).f2.f1) ≥ 5
               ·rw [if_pos cC] at H;have gi : decide (5 ≤ ((rd_T62 aa 0).f2.f1)) = true := decide_eq_true cC;clear cC
                by_cases cD : eT = true
                ·subst cD
                 have H1 : (if bU = 7 then ((bottom_Right.f bE ay aD aG ao).bind fun bT => (some bT)) else (some false)) = some r := by rw [if_pos rfl] at H; exact H
                 clear H;have H := H1;clear H1
                 by_cases ch : bU = 7
                 ·rw [if_pos ch] at H;have gj : (bU == 7) = true := beq_iff_eq.mpr ch;have gm : (bU != 7) = false := bne_eq_false_iff_eq.mpr ch;clear ch;replace H := Option.bind_eq_some_iff.mp H;obtain ⟨bT, ee, H⟩ := H
                  try dsimp only at H
                  have fw := am ee;clear ee;obtain rfl := Option.some.inj H;have gn := av.out;have go := bu.out;have gp := aw.out;have gr := bv.out;obtain ⟨e0, e1, e2, e3, e4, e5, e6, e7⟩ := g4 ae
                  try go_wp2_with (first | ((with_reducible refine gate_callee (f := 25) rfl ?_); refine gl (some 59) Try.func25 #[.agg #[.int .u64 ai, .int .u64 ag, .int .i64 af, .slice aV aa.length aQ]] ?_; (with_reducible refine (bottom_Threshold.calls bE ai ag af _ _ aa eS true _ ?side1 ?side2 fu.out).mono ?_); (case side1 => repeat (first | exact (Kd.V_reads' ac.out).2.2 | (with_reducible refine Kd.C_alloc ?_ _) | (with_reducible refine Kd.C_drewN ?_ _) | (with_reducible refine Kd.C_drew ?_))); (case side2 => exact (Kd.V_reads' ac.out).2.1); rintro e gO ⟨rfl, hb⟩; refine ⟨_, rfl, ?_⟩; replace ac := vb ac hb; replace ap := vb ap hb; replace ar := vb ar hb; replace ae := kb ae hb; replace an := kb an hb; replace aq := kb aq hb; replace HB := lb HB hb; (try clear hb); (try clear hb2); (try clear hk); (try clear hi); obtain ⟨e8, e9, e_, fa, fb, fc, fd, fe⟩ := g4 ae) | ((with_reducible refine gate_callee (f := 17) rfl ?_); refine gl (some 64) Try.func17 #[.agg #[.int .u64 ai, .int .u64 ag, .int .i64 af, .slice aV aa.length aQ], .string (⟨#[97]⟩ : ByteArray), .int .u64 0] ?_; (with_reducible refine (bottom_Add.calls bE ai ag af (fun k_ => (k_ ≠ ak ∧ (k_ ≠ aj ∧ k_ ≠ ah))) _ _ aa (⟨#[97]⟩ : ByteArray) 0 aF aH aK aI bU _ ?side1 fv.out).mono ?_); (case side1 => exact ac.out); rintro e gP ⟨gH, rfl, aZ, hb⟩; refine ⟨_, rfl, ?_⟩; replace ac := vb ac hb; replace ap := vb ap hb; replace ar := vb ar hb; have aO := am (Kd.V_lower (Kd.V_mono (ok' := fun k_ => k_ ≠ ak ∧ k_ ≠ aj ∧ k_ ≠ ah) aZ (fun k_ hk_ => ⟨Or.elim hk_ (fun hs_ => hs_.1) (fun hn_ => (nb ae k_ hn_)), Or.elim hk_ (fun hs_ => hs_.2.1) (fun hn_ => (nb an k_ hn_)), Or.elim hk_ (fun hs_ => hs_.2.2) (fun hn_ => (nb aq k_ hn_))⟩)) (below_size (pb HB))); replace ae := kb ae hb; replace an := kb an hb; replace aq := kb aq hb; replace HB := lb HB hb; (try clear hb); (try clear hb2); (try clear hk); (try clear hi); (try clear aZ)) | ((with_reducible refine gate_dst (N := 13) rfl ?_); (try (refine gate_guard (by rfl) ?_; dsimp only)); refine be 13 #[.int .u64 0, .int .u64 0, .int .i64 0, .slice none 0 0] 27 ?_; intro ad hg bA hbox hb; replace ac := ve ac hg hb; replace ap := ve ap hg hb; replace ar := ve ar hg hb; replace aO := ve aO hg hb; have aU := am (hbox); have gt := gq hg HB; have gu := gq hg HB; replace HB := lb HB hb; obtain ⟨a1, eJ, gv, gw⟩ := pm hg ae; replace ae := kb ae hb; obtain ⟨a2, eK, gx, gy⟩ := pm hg an; replace an := kb an hb; obtain ⟨a3, eL, gz, gA⟩ := pm hg aq; replace aq := kb aq hb; clear hb hbox hg; obtain ⟨ff, fg, fh, fi, fj, fk, fl, fm⟩ := g4 aU; obtain ⟨aL, aM, eU⟩ := Kd.V_slice aO.out; subst eU))
                  have n0_ : Aside0 (Kd.V k62 62 ((((bA.setCell ⟨ad, 0, none⟩ (.int .u64 aF)).setCell ⟨ad, 1, none⟩ (.int .u64 aH)).setCell ⟨ad, 2, none⟩ (.int .i64 aK)).setCell ⟨ad, 3, none⟩ (.slice aL aI.length aM)) w.heap.size (fun k_ => k_ ≠ ak ∧ k_ ≠ aj ∧ k_ ≠ ah ∧ k_ ≠ ad) (.slice aV aa.length aQ) aa) := ⟨by refine pv ?_; exact Kd.V_mono (Kd.V_far (p := ⟨ad, 3, none⟩) (Kd.V_far (p := ⟨ad, 2, none⟩) (Kd.V_far (p := ⟨ad, 1, none⟩) (Kd.V_far (p := ⟨ad, 0, none⟩) (Kd.V_mono ac.out (fun k_ hk => (⟨hk, hk.2⟩ : _ ∧ k_ ≠ ad))) (fun _ hk => hk.2) (.int .u64 aF)) (fun _ hk => hk.2) (.int .u64 aH)) (fun _ hk => hk.2) (.int .i64 aK)) (fun _ hk => hk.2) (.slice aL aI.length aM)) (fun _ hk => ⟨hk.1.1.1, ⟨hk.1.1.2.1, ⟨hk.1.1.2.2, hk.1.2⟩⟩⟩)⟩;have n1_ : Aside0 (Kd.V k62 62 ((((bA.setCell ⟨ad, 0, none⟩ (.int .u64 aF)).setCell ⟨ad, 1, none⟩ (.int .u64 aH)).setCell ⟨ad, 2, none⟩ (.int .i64 aK)).setCell ⟨ad, 3, none⟩ (.slice aL aI.length aM)) w.heap.size (fun k_ => k_ ≠ ak ∧ k_ ≠ aj ∧ k_ ≠ ah ∧ k_ ≠ ad) (.slice aW ao.length aR) ao) := ⟨by refine pv ?_; exact Kd.V_mono (Kd.V_far (p := ⟨ad, 3, none⟩) (Kd.V_far (p := ⟨ad, 2, none⟩) (Kd.V_far (p := ⟨ad, 1, none⟩) (Kd.V_far (p := ⟨ad, 0, none⟩) (Kd.V_mono ap.out (fun k_ hk => (⟨hk, hk.2⟩ : _ ∧ k_ ≠ ad))) (fun _ hk => hk.2) (.int .u64 aF)) (fun _ hk => hk.2) (.int .u64 aH)) (fun _ hk => hk.2) (.int .i64 aK)) (fun _ hk => hk.2) (.slice aL aI.length aM)) (fun _ hk => ⟨hk.1.1.1, ⟨hk.1.1.2.1, ⟨hk.1.1.2.2, hk.1.2⟩⟩⟩)⟩;have n2_ : Aside0 (Kd.V k62 62 ((((bA.setCell ⟨ad, 0, none⟩ (.int .u64 aF)).setCell ⟨ad, 1, none⟩ (.int .u64 aH)).setCell ⟨ad, 2, none⟩ (.int .i64 aK)).setCell ⟨ad, 3, none⟩ (.slice aL aI.length aM)) w.heap.size (fun k_ => k_ ≠ ak ∧ k_ ≠ aj ∧ k_ ≠ ah ∧ k_ ≠ ad) (.slice aX aE.length aY) aE) := ⟨by refine pv ?_; exact Kd.V_mono (Kd.V_far (p := ⟨ad, 3, none⟩) (Kd.V_far (p := ⟨ad, 2, none⟩) (Kd.V_far (p := ⟨ad, 1, none⟩) (Kd.V_far (p := ⟨ad, 0, none⟩) (Kd.V_mono ar.out (fun k_ hk => (⟨hk, hk.2⟩ : _ ∧ k_ ≠ ad))) (fun _ hk => hk.2) (.int .u64 aF)) (fun _ hk => hk.2) (.int .u64 aH)) (fun _ hk => hk.2) (.int .i64 aK)) (fun _ hk => hk.2) (.slice aL aI.length aM)) (fun _ hk => ⟨hk.1.1.1, ⟨hk.1.1.2.1, ⟨hk.1.1.2.2, hk.1.2⟩⟩⟩)⟩;have n3_ : Aside0 (Kd.V k62 62 ((((bA.setCell ⟨ad, 0, none⟩ (.int .u64 aF)).setCell ⟨ad, 1, none⟩ (.int .u64 aH)).setCell ⟨ad, 2, none⟩ (.int .i64 aK)).setCell ⟨ad, 3, none⟩ (.slice aL aI.length aM)) w.heap.size (fun k_ => k_ ≠ ak ∧ k_ ≠ aj ∧ k_ ≠ ah ∧ k_ ≠ ad) (.slice aL aI.length aM) aI) := ⟨by refine pv ?_; exact Kd.V_mono (Kd.V_far (p := ⟨ad, 3, none⟩) (Kd.V_far (p := ⟨ad, 2, none⟩) (Kd.V_far (p := ⟨ad, 1, none⟩) (Kd.V_far (p := ⟨ad, 0, none⟩) (Kd.V_mono aO.out (fun k_ hk => (⟨hk, hk.2⟩ : _ ∧ k_ ≠ ad))) (fun _ hk => hk.2) (.int .u64 aF)) (fun _ hk => hk.2) (.int .u64 aH)) (fun _ hk => hk.2) (.int .i64 aK)) (fun _ hk => hk.2) (.slice aL aI.length aM)) (fun _ hk => ⟨hk.1.1.1, ⟨hk.1.1.2.1, ⟨hk.1.1.2.2, hk.1.2⟩⟩⟩)⟩;have n4_ : Aside0 (((((bA.setCell ⟨ad, 0, none⟩ (.int .u64 aF)).setCell ⟨ad, 1, none⟩ (.int .u64 aH)).setCell ⟨ad, 2, none⟩ (.int .i64 aK)).setCell ⟨ad, 3, none⟩ (.slice aL aI.length aM)).heap[ak]? = some (.cells #[.int .u64 ai, .int .u64 ag, .int .i64 af, .slice aV aa.length aQ] 27 (0, 0))) := ⟨by refine pk ?_; refine blk_far ?_ a1.out _; refine pk ?_; refine blk_far ?_ a1.out _; refine pk ?_; refine blk_far ?_ a1.out _; refine pk ?_; refine blk_far ?_ a1.out _; refine pk ?_; exact ae.out⟩;have n5_ : Aside0 (((((bA.setCell ⟨ad, 0, none⟩ (.int .u64 aF)).setCell ⟨ad, 1, none⟩ (.int .u64 aH)).setCell ⟨ad, 2, none⟩ (.int .i64 aK)).setCell ⟨ad, 3, none⟩ (.slice aL aI.length aM)).heap[aj]? = some (.cells #[.int .u64 ay, .int .u64 aD, .int .i64 aG, .slice aW ao.length aR] 27 (0, 0))) := ⟨by refine pk ?_; refine blk_far ?_ a2.out _; refine pk ?_; refine blk_far ?_ a2.out _; refine pk ?_; refine blk_far ?_ a2.out _; refine pk ?_; refine blk_far ?_ a2.out _; refine pk ?_; exact an.out⟩;have n6_ : Aside0 (((((bA.setCell ⟨ad, 0, none⟩ (.int .u64 aF)).setCell ⟨ad, 1, none⟩ (.int .u64 aH)).setCell ⟨ad, 2, none⟩ (.int .i64 aK)).setCell ⟨ad, 3, none⟩ (.slice aL aI.length aM)).heap[ah]? = some (.cells #[.int .u64 aJ, .int .u64 aN, .int .i64 aP, .slice aX aE.length aY] 27 (0, 0))) := ⟨by refine pk ?_; refine blk_far ?_ a3.out _; refine pk ?_; refine blk_far ?_ a3.out _; refine pk ?_; refine blk_far ?_ a3.out _; refine pk ?_; refine blk_far ?_ a3.out _; refine pk ?_; exact aq.out⟩;have n7_ : Aside0 (((((bA.setCell ⟨ad, 0, none⟩ (.int .u64 aF)).setCell ⟨ad, 1, none⟩ (.int .u64 aH)).setCell ⟨ad, 2, none⟩ (.int .i64 aK)).setCell ⟨ad, 3, none⟩ (.slice aL aI.length aM)).heap[ad]? = some (.cells #[.int .u64 aF, .int .u64 aH, .int .i64 aK, .slice aL aI.length aM] 27 (0, 0))) := ⟨by refine pk ?_; refine blk_put (cs := #[.int .u64 aF, .int .u64 aH, .int .i64 aK, .slice none 0 0]) ?_ 3 _ rfl; refine pk ?_; refine blk_put (cs := #[.int .u64 aF, .int .u64 aH, .int .i64 0, .slice none 0 0]) ?_ 2 _ rfl; refine pk ?_; refine blk_put (cs := #[.int .u64 aF, .int .u64 0, .int .i64 0, .slice none 0 0]) ?_ 1 _ rfl; refine pk ?_; refine blk_put (cs := #[.int .u64 0, .int .u64 0, .int .i64 0, .slice none 0 0]) ?_ 0 _ rfl; refine pk ?_; exact aU.out⟩;have n8_ : Aside0 (Below w.heap.size w ((((bA.setCell ⟨ad, 0, none⟩ (.int .u64 aF)).setCell ⟨ad, 1, none⟩ (.int .u64 aH)).setCell ⟨ad, 2, none⟩ (.int .i64 aK)).setCell ⟨ad, 3, none⟩ (.slice aL aI.length aM))) := ⟨pb HB⟩
                  (try clear ac)
                  (try clear ap)
                  (try clear ar)
                  (try clear aO)
                  (try clear ae)
                  (try clear an)
                  (try clear aq)
                  (try clear aU)
                  (try clear HB)
                  generalize ((((bA.setCell ⟨ad, 0, none⟩ (.int .u64 aF)).setCell ⟨ad, 1, none⟩ (.int .u64 aH)).setCell ⟨ad, 2, none⟩ (.int .i64 aK)).setCell ⟨ad, 3, none⟩ (.slice aL aI.length aM)) = fx at n0_ n1_ n2_ n3_ n4_ n5_ n6_ n7_ n8_ ⊢
                  have ac := n0_;have ap := n1_;have ar := n2_;have aO := n3_;have ae := n4_;have an := n5_;have aq := n6_;have aU := n7_;have HB := n8_;clear n0_ n1_ n2_ n3_ n4_ n5_ n6_ n7_ n8_;replace ac := am (Kd.V_drew ac.out);replace ap := am (Kd.V_drew ap.out);replace ar := am (Kd.V_drew ar.out);replace aO := am (Kd.V_drew aO.out);replace ae := am (blk_drew ae.out);replace an := am (blk_drew an.out);replace aq := am (blk_drew aq.out);replace aU := am (blk_drew aU.out);replace HB := am (below_drew1 HB.out);have cj : 0 ≤ (0 : Int) := (by omega);have ck : 0 < (ao.length : Int) := of_decide_eq_true (by first | (with_reducible assumption) | assumption);obtain ⟨aB, eV, a4, a5, a6, a7⟩ := at_T62 (Kd.V_reads' ap.out).2.2 0 cj ck;cases eV;have qi266 : (0 < ao.length) = True := eq_true (by omega)
                  (try rw [show ((0 : Int)).toNat = 0 from rfl] at a4)
                  (try rw [show 0 * 4 = 0 from rfl] at a4)
                  (try rw [Addr.add_zero'] at a4)
                  (try rw [show ((0 : Int)).toNat = 0 from rfl] at a5)
                  (try rw [show 0 * 4 = 0 from rfl] at a5)
                  (try rw [Addr.add_zero'] at a5)
                  (try rw [show ((0 : Int)).toNat = 0 from rfl] at a6)
                  (try rw [show 0 * 4 = 0 from rfl] at a6)
                  (try rw [Addr.add_zero'] at a6)
                  (try rw [show ((0 : Int)).toNat = 0 from rfl] at a7)
                  (try rw [show 0 * 4 = 0 from rfl] at a7)
                  (try rw [Addr.add_zero'] at a7)
                  replace cj := eq_true cj;replace ck := eq_true ck;have cl : 0 ≤ (0 : Int) := (by omega);have cm : 0 < (aa.length : Int) := of_decide_eq_true (by first | (with_reducible assumption) | assumption);obtain ⟨au, eW, a8, a9, a_, ba⟩ := at_T62 (Kd.V_reads' ac.out).2.2 0 cl cm;cases eW;have qi267 : (0 < aa.length) = True := eq_true (by omega)
                  (try rw [show ((0 : Int)).toNat = 0 from rfl] at a8)
                  (try rw [show 0 * 4 = 0 from rfl] at a8)
                  (try rw [Addr.add_zero'] at a8)
                  (try rw [show ((0 : Int)).toNat = 0 from rfl] at a9)
                  (try rw [show 0 * 4 = 0 from rfl] at a9)
                  (try rw [Addr.add_zero'] at a9)
                  (try rw [show ((0 : Int)).toNat = 0 from rfl] at a_)
                  (try rw [show 0 * 4 = 0 from rfl] at a_)
                  (try rw [Addr.add_zero'] at a_)
                  (try rw [show ((0 : Int)).toNat = 0 from rfl] at ba)
                  (try rw [show 0 * 4 = 0 from rfl] at ba)
                  (try rw [Addr.add_zero'] at ba)
                  replace cl := eq_true cl;replace cm := eq_true cm;have cn : 0 ≤ (0 : Int) := (by omega);have cp : 0 < (ao.length : Int) := of_decide_eq_true (by first | (with_reducible assumption) | assumption);obtain ⟨ej, eX, bb, bc, bd, bg⟩ := at_T62 (Kd.V_reads' ap.out).2.2 0 cn cp;obtain rfl : aB = ej := (by injection eX);have qi268 : (0 < ao.length) = True := eq_true (by omega)
                  (try rw [show ((0 : Int)).toNat = 0 from rfl] at bb)
                  (try rw [show 0 * 4 = 0 from rfl] at bb)
                  (try rw [Addr.add_zero'] at bb)
                  (try rw [show ((0 : Int)).toNat = 0 from rfl] at bc)
                  (try rw [show 0 * 4 = 0 from rfl] at bc)
                  (try rw [Addr.add_zero'] at bc)
                  (try rw [show ((0 : Int)).toNat = 0 from rfl] at bd)
                  (try rw [show 0 * 4 = 0 from rfl] at bd)
                  (try rw [Addr.add_zero'] at bd)
                  (try rw [show ((0 : Int)).toNat = 0 from rfl] at bg)
                  (try rw [show 0 * 4 = 0 from rfl] at bg)
                  (try rw [Addr.add_zero'] at bg)
                  replace cn := eq_true cn;replace cp := eq_true cp;have cq : 0 ≤ (0 : Int) := (by omega);have cr : 0 < (aa.length : Int) := of_decide_eq_true (by first | (with_reducible assumption) | assumption);obtain ⟨ek, eY, bh, bi, bj, bk⟩ := at_T62 (Kd.V_reads' ac.out).2.2 0 cq cr;obtain rfl : au = ek := (by injection eY);have qi269 : (0 < aa.length) = True := eq_true (by omega)
                  (try rw [show ((0 : Int)).toNat = 0 from rfl] at bh)
                  (try rw [show 0 * 4 = 0 from rfl] at bh)
                  (try rw [Addr.add_zero'] at bh)
                  (try rw [show ((0 : Int)).toNat = 0 from rfl] at bi)
                  (try rw [show 0 * 4 = 0 from rfl] at bi)
                  (try rw [Addr.add_zero'] at bi)
                  (try rw [show ((0 : Int)).toNat = 0 from rfl] at bj)
                  (try rw [show 0 * 4 = 0 from rfl] at bj)
                  (try rw [Addr.add_zero'] at bj)
                  (try rw [show ((0 : Int)).toNat = 0 from rfl] at bk)
                  (try rw [show 0 * 4 = 0 from rfl] at bk)
                  (try rw [Addr.add_zero'] at bk)
                  replace cq := eq_true cq;replace cr := eq_true cr;have ct : 0 ≤ (0 : Int) := (by omega);have cu : 0 < (aa.length : Int) := of_decide_eq_true (by first | (with_reducible assumption) | assumption);obtain ⟨em, eZ, bl, bm, bn, bo⟩ := at_T62 (Kd.V_reads' ac.out).2.2 0 ct cu;obtain rfl : au = em := (by injection eZ);have qi270 : (0 < aa.length) = True := eq_true (by omega)
                  (try rw [show ((0 : Int)).toNat = 0 from rfl] at bl)
                  (try rw [show 0 * 4 = 0 from rfl] at bl)
                  (try rw [Addr.add_zero'] at bl)
                  (try rw [show ((0 : Int)).toNat = 0 from rfl] at bm)
                  (try rw [show 0 * 4 = 0 from rfl] at bm)
                  (try rw [Addr.add_zero'] at bm)
                  (try rw [show ((0 : Int)).toNat = 0 from rfl] at bn)
                  (try rw [show 0 * 4 = 0 from rfl] at bn)
                  (try rw [Addr.add_zero'] at bn)
                  (try rw [show ((0 : Int)).toNat = 0 from rfl] at bo)
                  (try rw [show 0 * 4 = 0 from rfl] at bo)
                  (try rw [Addr.add_zero'] at bo)
                  replace ct := eq_true ct;replace cu := eq_true cu
                  refine start_ (n := 66) (S := fun w' => w'.cell? ⟨ah, 0, none⟩ = some (.int .u64 aJ) ∧ w'.cell? ⟨ah, 1, none⟩ = some (.int .u64 aN) ∧ w'.cell? ⟨ah, 2, none⟩ = some (.int .i64 aP) ∧ w'.cell? ⟨ah, 3, none⟩ = some (.slice aX aE.length aY) ∧ w'.cell? ⟨aj, 0, none⟩ = some (.int .u64 ay) ∧ w'.cell? ⟨aj, 1, none⟩ = some (.int .u64 aD) ∧ w'.cell? ⟨aj, 2, none⟩ = some (.int .i64 aG) ∧ w'.cell? ⟨aj, 3, none⟩ = some (.slice (some aB) ao.length aR) ∧ w'.cell? ⟨ak, 0, none⟩ = some (.int .u64 ai) ∧ w'.cell? ⟨ak, 1, none⟩ = some (.int .u64 ag) ∧ w'.cell? ⟨ak, 2, none⟩ = some (.int .i64 af) ∧ w'.cell? ⟨ak, 3, none⟩ = some (.slice (some au) aa.length aQ) ∧ w'.cell? aB = some (.string ((rd_T62 ao 0).f0)) ∧ w'.cell? ⟨aB.block, aB.off + 1, none⟩ = some (.int .u64 ((rd_T62 ao 0).f1)) ∧ w'.cell? ⟨aB.block, aB.off + 2, none⟩ = some (.int .u64 ((rd_T62 ao 0).f2.f0)) ∧ w'.cell? ⟨aB.block, aB.off + 3, none⟩ = some (.int .u64 ((rd_T62 ao 0).f2.f1)) ∧ w'.cell? au = some (.string ((rd_T62 aa 0).f0)) ∧ w'.cell? ⟨au.block, au.off + 1, none⟩ = some (.int .u64 ((rd_T62 aa 0).f1)) ∧ w'.cell? ⟨au.block, au.off + 2, none⟩ = some (.int .u64 ((rd_T62 aa 0).f2.f0)) ∧ w'.cell? ⟨au.block, au.off + 3, none⟩ = some (.int .u64 ((rd_T62 aa 0).f2.f1)) ∧ w'.cell? aB = some (.string ((rd_T62 ao 0).f0)) ∧ w'.cell? ⟨aB.block, aB.off + 1, none⟩ = some (.int .u64 ((rd_T62 ao 0).f1)) ∧ w'.cell? ⟨aB.block, aB.off + 2, none⟩ = some (.int .u64 ((rd_T62 ao 0).f2.f0)) ∧ w'.cell? ⟨aB.block, aB.off + 3, none⟩ = some (.int .u64 ((rd_T62 ao 0).f2.f1)) ∧ w'.cell? au = some (.string ((rd_T62 aa 0).f0)) ∧ w'.cell? ⟨au.block, au.off + 1, none⟩ = some (.int .u64 ((rd_T62 aa 0).f1)) ∧ w'.cell? ⟨au.block, au.off + 2, none⟩ = some (.int .u64 ((rd_T62 aa 0).f2.f0)) ∧ w'.cell? ⟨au.block, au.off + 3, none⟩ = some (.int .u64 ((rd_T62 aa 0).f2.f1)) ∧ w'.cell? au = some (.string ((rd_T62 aa 0).f0)) ∧ w'.cell? ⟨au.block, au.off + 1, none⟩ = some (.int .u64 ((rd_T62 aa 0).f1)) ∧ w'.cell? ⟨au.block, au.off + 2, none⟩ = some (.int .u64 ((rd_T62 aa 0).f2.f0)) ∧ w'.cell? ⟨au.block, au.off + 3, none⟩ = some (.int .u64 ((rd_T62 aa 0).f2.f1))) (ds := []) #[false, false, false, false, false, false, false, false, false, false, false, false, false, false, false, false, false, false, false, false, false, false, false, false, false, false, false, false, false, false, false, false, false, false, false, false, false, false, false, false, false, false, false, false, false, false, false, false, false, false, false, false, false, false, false, false, false, false, false, false, false, false, false, false, false, false] (by kernel_rfl) rfl rfl ⟨ce aq 0, ce aq 1, ce aq 2, ce aq 3, ce an 0, ce an 1, ce an 2, ce an 3, ce ae 0, ce ae 1, ce ae 2, ce ae 3, a4, a5, a6, a7, a8, a9, a_, ba, bb, bc, bd, bg, bh, bi, bj, bk, bl, bm, bn, bo⟩ (fun hHeld => ?_); refine with_tabW l14_awake.tab16 l14_awake.bits16 (fun HT_ HW_ => ?_)
                  generalize fx.drew = gQ at ac ap ar aO ae an aq aU HB a4 a5 a6 a7 a8 a9 a_ ba bb bc bd bg bh bi bj bk bl bm bn bo hHeld ⊢
                  refine pu 0 ?_
                  refine pu 1 ?_
                  refine pu 2 ?_
                  refine pu 3 ?_
                  refine pu 4 ?_
                  refine pu 5 ?_
                  refine pu 6 ?_
                  refine pu 7 ?_
                  refine pu 8 ?_
                  refine pu 9 ?_
                  refine pu 10 ?_
                  refine pu 11 ?_
                  refine ta 12 hHeld ?_
                  refine pu 13 ?_
                  refine pu 14 ?_
                  refine pu 15 ?_
                  refine pu 16 ?_
                  refine pu 17 ?_
                  refine pu 22 ?_
                  refine ta 18 hHeld ?_
                  refine pu 19 ?_
                  refine pu 20 ?_
                  refine ta 21 hHeld ?_
                  refine ta 23 hHeld ?_
                  refine pu 24 ?_
                  refine pu 25 ?_
                  refine ta 26 hHeld ?_
                  refine pu 27 ?_
                  refine pu 28 ?_
                  refine pu 29 ?_
                  refine pu 30 ?_
                  refine pu 36 ?_
                  refine ta 31 hHeld ?_
                  refine pu 32 ?_
                  refine pu 33 ?_
                  refine pu 34 ?_
                  refine ta 35 hHeld ?_
                  refine ta 37 hHeld ?_
                  refine pu 38 ?_
                  refine pu 39 ?_
                  refine pu 40 ?_
                  refine ta 41 hHeld ?_
                  refine pu 42 ?_
                  refine pu 43 ?_
                  refine pu 44 ?_
                  refine pu 45 ?_
                  refine pu 46 ?_
                  refine ta 47 hHeld ?_
                  refine pu 48 ?_
                  refine pu 49 ?_
                  refine pu 50 ?_
                  refine ta 51 hHeld ?_
                  refine pu 52 ?_
                  refine pu 53 ?_
                  refine pu 54 ?_
                  refine pu 55 ?_
                  refine pu 56 ?_
                  refine pu 57 ?_
                  refine pu 58 ?_
                  refine pu 59 ?_
                  refine pu 60 ?_
                  refine pu 61 ?_
                  refine ta 62 hHeld ?_
                  refine on1 63 (fun K hK => ?_)
                  refine gs Try.func21 #[.agg #[.int .u64 ay, .int .u64 aD, .int .i64 aG, .slice (some aB) ao.length aR]] ?_
                  with_reducible refine (bottom_Right.calls bE ay aD aG _ _ ao bT _ ?side1 ?side2 fw.out).mono ?_
                  (case side1 => repeat (first | exact (Kd.V_reads' ap.out).2.2 | (with_reducible refine Kd.C_alloc ?_ _) | (with_reducible refine Kd.C_drewN ?_ _) | (with_reducible refine Kd.C_drew ?_)))
                  (case side2 => exact (Kd.V_reads' ap.out).2.1)
                  rintro e gR ⟨rfl, hb⟩
                  have en := (hb.cell (World.block_lt_of_cell? _ _ (hHeld.2.2.2.2.2.2.2.2.2.2.2.2.1))).trans (hHeld.2.2.2.2.2.2.2.2.2.2.2.2.1);have eo := (hb.cell (World.block_lt_of_cell? _ _ (hHeld.2.2.2.2.2.2.2.2.2.2.2.2.2.1))).trans (hHeld.2.2.2.2.2.2.2.2.2.2.2.2.2.1);have ep := (hb.cell (World.block_lt_of_cell? _ _ (hHeld.2.2.2.2.2.2.2.2.2.2.2.2.2.2.1))).trans (hHeld.2.2.2.2.2.2.2.2.2.2.2.2.2.2.1);have eq := (hb.cell (World.block_lt_of_cell? _ _ (hHeld.2.2.2.2.2.2.2.2.2.2.2.2.2.2.2.1))).trans (hHeld.2.2.2.2.2.2.2.2.2.2.2.2.2.2.2.1);have er := (hb.cell (World.block_lt_of_cell? _ _ (hHeld.2.2.2.2.2.2.2.2.2.2.2.2.2.2.2.2.1))).trans (hHeld.2.2.2.2.2.2.2.2.2.2.2.2.2.2.2.2.1);have es := (hb.cell (World.block_lt_of_cell? _ _ (hHeld.2.2.2.2.2.2.2.2.2.2.2.2.2.2.2.2.2.1))).trans (hHeld.2.2.2.2.2.2.2.2.2.2.2.2.2.2.2.2.2.1);have et := (hb.cell (World.block_lt_of_cell? _ _ (hHeld.2.2.2.2.2.2.2.2.2.2.2.2.2.2.2.2.2.2.1))).trans (hHeld.2.2.2.2.2.2.2.2.2.2.2.2.2.2.2.2.2.2.1);have eu := (hb.cell (World.block_lt_of_cell? _ _ (hHeld.2.2.2.2.2.2.2.2.2.2.2.2.2.2.2.2.2.2.2.1))).trans (hHeld.2.2.2.2.2.2.2.2.2.2.2.2.2.2.2.2.2.2.2.1);have ev := (hb.cell (World.block_lt_of_cell? _ _ (hHeld.2.2.2.2.2.2.2.2.2.2.2.2.2.2.2.2.2.2.2.2.1))).trans (hHeld.2.2.2.2.2.2.2.2.2.2.2.2.2.2.2.2.2.2.2.2.1);have ew := (hb.cell (World.block_lt_of_cell? _ _ (hHeld.2.2.2.2.2.2.2.2.2.2.2.2.2.2.2.2.2.2.2.2.2.1))).trans (hHeld.2.2.2.2.2.2.2.2.2.2.2.2.2.2.2.2.2.2.2.2.2.1);have ex := (hb.cell (World.block_lt_of_cell? _ _ (hHeld.2.2.2.2.2.2.2.2.2.2.2.2.2.2.2.2.2.2.2.2.2.2.1))).trans (hHeld.2.2.2.2.2.2.2.2.2.2.2.2.2.2.2.2.2.2.2.2.2.2.1);have ey := (hb.cell (World.block_lt_of_cell? _ _ (hHeld.2.2.2.2.2.2.2.2.2.2.2.2.2.2.2.2.2.2.2.2.2.2.2.1))).trans (hHeld.2.2.2.2.2.2.2.2.2.2.2.2.2.2.2.2.2.2.2.2.2.2.2.1);have ez := (hb.cell (World.block_lt_of_cell? _ _ (hHeld.2.2.2.2.2.2.2.2.2.2.2.2.2.2.2.2.2.2.2.2.2.2.2.2.1))).trans (hHeld.2.2.2.2.2.2.2.2.2.2.2.2.2.2.2.2.2.2.2.2.2.2.2.2.1);have eA := (hb.cell (World.block_lt_of_cell? _ _ (hHeld.2.2.2.2.2.2.2.2.2.2.2.2.2.2.2.2.2.2.2.2.2.2.2.2.2.1))).trans (hHeld.2.2.2.2.2.2.2.2.2.2.2.2.2.2.2.2.2.2.2.2.2.2.2.2.2.1);have eB := (hb.cell (World.block_lt_of_cell? _ _ (hHeld.2.2.2.2.2.2.2.2.2.2.2.2.2.2.2.2.2.2.2.2.2.2.2.2.2.2.1))).trans (hHeld.2.2.2.2.2.2.2.2.2.2.2.2.2.2.2.2.2.2.2.2.2.2.2.2.2.2.1);have eC := (hb.cell (World.block_lt_of_cell? _ _ (hHeld.2.2.2.2.2.2.2.2.2.2.2.2.2.2.2.2.2.2.2.2.2.2.2.2.2.2.2.1))).trans (hHeld.2.2.2.2.2.2.2.2.2.2.2.2.2.2.2.2.2.2.2.2.2.2.2.2.2.2.2.1);have eD := (hb.cell (World.block_lt_of_cell? _ _ (hHeld.2.2.2.2.2.2.2.2.2.2.2.2.2.2.2.2.2.2.2.2.2.2.2.2.2.2.2.2.1))).trans (hHeld.2.2.2.2.2.2.2.2.2.2.2.2.2.2.2.2.2.2.2.2.2.2.2.2.2.2.2.2.1);have eE := (hb.cell (World.block_lt_of_cell? _ _ (hHeld.2.2.2.2.2.2.2.2.2.2.2.2.2.2.2.2.2.2.2.2.2.2.2.2.2.2.2.2.2.1))).trans (hHeld.2.2.2.2.2.2.2.2.2.2.2.2.2.2.2.2.2.2.2.2.2.2.2.2.2.2.2.2.2.1);have eF := (hb.cell (World.block_lt_of_cell? _ _ (hHeld.2.2.2.2.2.2.2.2.2.2.2.2.2.2.2.2.2.2.2.2.2.2.2.2.2.2.2.2.2.2.1))).trans (hHeld.2.2.2.2.2.2.2.2.2.2.2.2.2.2.2.2.2.2.2.2.2.2.2.2.2.2.2.2.2.2.1);have eG := (hb.cell (World.block_lt_of_cell? _ _ (hHeld.2.2.2.2.2.2.2.2.2.2.2.2.2.2.2.2.2.2.2.2.2.2.2.2.2.2.2.2.2.2.2))).trans (hHeld.2.2.2.2.2.2.2.2.2.2.2.2.2.2.2.2.2.2.2.2.2.2.2.2.2.2.2.2.2.2.2)
                  refine ⟨_, rfl, ?_⟩
                  replace ac := vb ac hb;replace ap := vb ap hb;replace ar := vb ar hb;replace aO := vb aO hb;replace ae := kb ae hb;replace an := kb an hb;replace aq := kb aq hb;replace aU := kb aU hb;replace HB := lb HB hb
                  (try clear hb)
                  (try clear hb2)
                  (try clear hk)
                  (try clear hi)
                  refine hK.out _ _ ⟨ce aq 0, ce aq 1, ce aq 2, ce aq 3, ce an 0, ce an 1, ce an 2, ce an 3, ce ae 0, ce ae 1, ce ae 2, ce ae 3, en, eo, ep, eq, er, es, et, eu, ev, ew, ex, ey, ez, eA, eB, eC, eD, eE, eF, eG⟩ (fun hHeld => ?_)
                  clear hK K
                  refine nm ?_
                  refine pu 64 ?_
                  refine pu 65 ?_
                  refine done_ (done_of HT_.out (by kernel_rfl)) ?_
                  try go_wp2
                  go_ret
                  exact ⟨by first | rfl | (simp [errW_none, errW_some] <;> rfl) | (simp [*, errW_none, errW_some] <;> rfl), pb HB⟩
                 ·rw [if_neg ch] at H
                  exact Bool.noConfusion ((Option.some.inj H).trans hrT.out)
                ·replace cD := Bool.eq_false_iff.mpr cD;subst cD
                 have H1 : (some false) = some r := by rw [if_neg (show ¬ (false = true) by decide)] at H; exact H
                 exact Bool.noConfusion ((Option.some.inj H1).trans hrT.out)
               ·rw [if_neg cC] at H
                exact Bool.noConfusion ((Option.some.inj H).trans hrT.out)
              ·rw [if_neg cg] at H
               exact Bool.noConfusion ((Option.some.inj H).trans hrT.out)
             ·rw [if_neg cf] at H
              exact Bool.noConfusion ((Option.some.inj H).trans hrT.out)
            ·rw [if_neg cB] at H;exact absurd H (by simp)
           ·rw [if_neg cA] at H;exact absurd H (by simp)
          ·rw [if_neg cd] at H
           exact Bool.noConfusion ((Option.some.inj H).trans hrT.out)
         ·rw [if_neg cc] at H
          exact Bool.noConfusion ((Option.some.inj H).trans hrT.out)
        ·rw [if_neg cb] at H
         exact Bool.noConfusion ((Option.some.inj H).trans hrT.out)
       ·rw [if_neg ca] at H
        exact Bool.noConfusion ((Option.some.inj H).trans hrT.out)
theorem l14_awake.atK : l14_awake.f 60 = some true := by kernel_rfl
theorem l14_awake.up {t : Bool} : ∀ (d k : Nat), l14_awake.f k = some t → l14_awake.f (k + d) = some t
 | 0, _, h => h
 | d + 1, k, h => l14_awake.mono (k + d) _ (l14_awake.up d k h)
theorem l14_awake.true_ (k : Nat) (t : Bool) (h : l14_awake.f k = some t) : t = true := by
 have h1 := l14_awake.up 60 k h;have h2 := l14_awake.up k 60 l14_awake.atK;rw [Nat.add_comm] at h2
 exact Option.some.inj (h1.symm.trans h2)

end Go.Proofs.Ytmfffbafldbihaa.H
