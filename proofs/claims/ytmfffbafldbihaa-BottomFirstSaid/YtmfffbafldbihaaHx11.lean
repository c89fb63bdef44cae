import Derived.Test.YtmfffbafldbihaaHx0
import Derived.Test.YtmfffbafldbihaaHx1
import Derived.Test.YtmfffbafldbihaaHx6
import Derived.Test.YtmfffbafldbihaaHx9
import Derived.Test.YtmfffbafldbihaaHx10
namespace Go.Proofs.Ytmfffbafldbihaa.H
open Go.RowKit Go.Proofs.YtmfffbafldbihaaW.PrintWords Go.Proofs.YtmfffbafldbihaaW.PrintLast Go.Proofs.YtmfffbafldbihaaW.PrintMore Go.Proofs.YtmfffbafldbihaaW.Sq
attribute [local go_sem] max2_int min2_int max_two min_two max_three min_three max_four min_four
set_option linter.unusedVariables false
set_option linter.unusedSimpArgs false

attribute [local go_sem high] eqA24
mutual
def bottom_Merge.j0 : Nat → Bool → Int → Int → Int → List (S62) → Int → Int → Int → List (S62) → Option (Int × Int × Int × (List (S62)) × Int)
 | 0, _, _, _, _, _, _, _, _, _ => none
 | k + 1, x8, x177000, x177001, x177002, x177003, x178000, x178001, x178002, x178003 => if x8 = true then (some (0, 0, 0, ([] : List (S62)), 1)) else (if (!(x177000 == x178000) || (!(x177001 == x178001))) = true then (some (0, 0, 0, ([] : List (S62)), 9)) else (if x177002 = x178002 then ((bottom_wraps.f k x177000 x177001 x177002 x177003 x178000 x178001 x178002 x178003).bind fun t181 => (if t181 = true then (some (0, 0, 0, ([] : List (S62)), 12)) else (bottom_Merge.l0 k x178003 (x178003.length : Int) 0 x177000 x177001 x177002 x177003))) else (some (0, 0, 0, ([] : List (S62)), 10))))
def bottom_Merge.l0 : Nat → List (S62) → Int → Int → Int → Int → Int → List (S62) → Option (Int × Int × Int × (List (S62)) × Int)
 | 0, _, _, _, _, _, _, _ => none
 | k + 1, x38, x39, x40, x177000, x177001, x177002, x177003 => if x40 < x39 then (if 0 ≤ x40 then (if x40 < (x38.length : Int) then ((bottom_add.f k x177000 x177001 x177002 x177003 ((rd_T62 x38 x40).f0) ((rd_T62 x38 x40).f1) ((rd_T62 x38 x40).f2.f0) ((rd_T62 x38 x40).f2.f1)).bind fun bt184 => (bottom_Merge.l0 k x38 x39 (wrap64 (x40 + 1)) bt184.1 bt184.2.1 bt184.2.2.1 bt184.2.2.2.1)) else (none)) else (none)) else (some (x177000, x177001, x177002, x177003, 0))
end
def bottom_Merge.f (k : Nat) (a0_0 : Int) (a0_1 : Int) (a0_2 : Int) (l0_3 : List (S62)) (a1_0 : Int) (a1_1 : Int) (a1_2 : Int) (l1_3 : List (S62)) : Option (Int × Int × Int × (List (S62)) × Int) := (bottom_Right.f k a0_0 a0_1 a0_2 l0_3).bind fun t179 => (if t179 = true then ((bottom_Right.f k a1_0 a1_1 a1_2 l1_3).bind fun t180 => (bottom_Merge.j0 k (!t180) a0_0 a0_1 a0_2 l0_3 a1_0 a1_1 a1_2 l1_3)) else (bottom_Merge.j0 k true a0_0 a0_1 a0_2 l0_3 a1_0 a1_1 a1_2 l1_3))
theorem bottom_Merge.mono_l : ∀ k, (∀ y0 y1 y2 y3 y4 y5 y6 y7 y8, LeO (bottom_Merge.j0 k y0 y1 y2 y3 y4 y5 y6 y7 y8) (bottom_Merge.j0 (k + 1) y0 y1 y2 y3 y4 y5 y6 y7 y8)) ∧ (∀ y0 y1 y2 y3 y4 y5 y6, LeO (bottom_Merge.l0 k y0 y1 y2 y3 y4 y5 y6) (bottom_Merge.l0 (k + 1) y0 y1 y2 y3 y4 y5 y6))
 | 0 => ⟨fun _ _ _ _ _ _ _ _ _ r h => by simp [bottom_Merge.j0] at h, fun _ _ _ _ _ _ _ r h => by simp [bottom_Merge.l0] at h⟩
 | k + 1 => by
  obtain ⟨ih0, ih1⟩ := bottom_Merge.mono_l k
  refine ⟨?_, ?_⟩
  ·intro y0 y1 y2 y3 y4 y5 y6 y7 y8
   unfold bottom_Merge.j0
   repeat' first
   | (with_reducible exact ih0 _ _ _ _ _ _ _ _ _)
   | (with_reducible exact ih1 _ _ _ _ _ _ _)
   | (with_reducible exact bottom_Right.mono _ _ _ _ _)
   | (with_reducible exact bottom_add.mono _ _ _ _ _ _ _ _ _)
   | (with_reducible exact bottom_wraps.mono _ _ _ _ _ _ _ _ _)
   | (with_reducible exact LeO.refl _)
   | (with_reducible exact LeO.none _)
   | (with_reducible refine LeO.ite ?_ ?_)
   | (with_reducible refine LeO.bind ?_ (fun _ => ?_))
  ·intro y0 y1 y2 y3 y4 y5 y6
   unfold bottom_Merge.l0
   repeat' first
   | (with_reducible exact ih0 _ _ _ _ _ _ _ _ _)
   | (with_reducible exact ih1 _ _ _ _ _ _ _)
   | (with_reducible exact bottom_Right.mono _ _ _ _ _)
   | (with_reducible exact bottom_add.mono _ _ _ _ _ _ _ _ _)
   | (with_reducible exact bottom_wraps.mono _ _ _ _ _ _ _ _ _)
   | (with_reducible exact LeO.refl _)
   | (with_reducible exact LeO.none _)
   | (with_reducible refine LeO.ite ?_ ?_)
   | (with_reducible refine LeO.bind ?_ (fun _ => ?_))
theorem bottom_Merge.mono : ∀ a0 a1 a2 a3 a4 a5 a6 a7 k, LeO (bottom_Merge.f k a0 a1 a2 a3 a4 a5 a6 a7) (bottom_Merge.f (k + 1) a0 a1 a2 a3 a4 a5 a6 a7) := by
 intro a0 a1 a2 a3 a4 a5 a6 a7 k
 obtain ⟨ih0, ih1⟩ := bottom_Merge.mono_l k
 unfold bottom_Merge.f
 repeat' first
   | (with_reducible exact ih0 _ _ _ _ _ _ _ _ _)
   | (with_reducible exact ih1 _ _ _ _ _ _ _)
   | (with_reducible exact bottom_Right.mono _ _ _ _ _)
   | (with_reducible exact bottom_add.mono _ _ _ _ _ _ _ _ _)
   | (with_reducible exact bottom_wraps.mono _ _ _ _ _ _ _ _ _)
   | (with_reducible exact LeO.refl _)
   | (with_reducible exact LeO.none _)
   | (with_reducible refine LeO.ite ?_ ?_)
   | (with_reducible refine LeO.bind ?_ (fun _ => ?_))
set_option maxHeartbeats 8000000 in
set_option maxRecDepth 100000 in
theorem bottom_Merge.calls (k : Nat) (an : Int) (ao : Int) (ak : Int) (aH : Nat → Prop) (aF : Option Addr) (aG : Nat) (ai : List (S62)) (ax : Int) (ay : Int) (av : Int) (aL : Option Addr) (aM : Nat) (ad : List (S62)) (r1 : Int) (r2 : Int) (r3 : Int) (r4 : List (S62)) (r5 : Int) (w : World) (dp : Kd.V k62 62 w w.heap.size (fun k_ => aH k_) (.slice aF ai.length aG) ai) (bH : Kd.C k62 w aL ad.length ad) (bI : ad.length ≤ aM) (h : bottom_Merge.f k an ao ak ai ax ay av ad = some (r1, r2, r3, r4, r5)) :
  Calls Try.prog 12 #[.agg #[.int .u64 an, .int .u64 ao, .int .i64 ak, .slice aF ai.length aG], .agg #[.int .u64 ax, .int .u64 ay, .int .i64 av, .slice aL ad.length aM]] w fun e w' => ∃ dr : Value, e = .returned (.tuple #[.agg #[.int .u64 r1, .int .u64 r2, .int .i64 r3, dr], .int .i64 r5]) ∧ Kd.V k62 62 w' w.heap.size (fun k_ => (aH k_ ∨ w.heap.size ≤ k_)) dr r4 ∧ Below w.heap.size w w' := by
 have hu27 := Try.underlying27;have hu24 := Try.underlying24;have hu62 := Try.underlying62;have aw := am (show Kd.V k62 62 w w.heap.size (fun k_ => (aH k_ ∨ w.heap.size ≤ k_)) (.slice aF ai.length aG) ai from Kd.V_mono dp (fun k_ hk => .inl hk));have aV := am bH;have br := am bI;clear bH bI;have HB := am (Below.refl w.heap.size w);have H : ((bottom_Right.f k an ao ak ai).bind fun bD => (if bD = true then ((bottom_Right.f k ax ay av ad).bind fun aN => (bottom_Merge.j0 k (!aN) an ao ak ai ax ay av ad)) else (bottom_Merge.j0 k true an ao ak ai ax ay av ad))) = some (r1, r2, r3, r4, r5) := h;clear h;have dh := am H;clear H
 go_enter Try.func12, Try.ntmps12
 go_upto_region 1 with (first | ((with_reducible refine gate_dst (N := 2) rfl ?_); refine be 2 #[.int .u64 an, .int .u64 ao, .int .i64 ak, .slice aF ai.length aG] 27 ?_; intro aE hg w4 hbox hb; replace aw := ve aw hg hb; have aa := am (hbox); have eS := gq hg HB; have eT := gq hg HB; replace HB := lb HB hb; clear hb hbox hg) | ((with_reducible refine gate_dst (N := 3) rfl ?_); refine be 3 #[.int .u64 ax, .int .u64 ay, .int .i64 av, .slice aL ad.length aM] 27 ?_; intro aJ hg w5 hbox hb; replace aw := ve aw hg hb; have af := am (hbox); have eU := gq hg HB; have eV := gq hg HB; replace HB := lb HB hb; obtain ⟨aB, aj, -, -⟩ := pm hg aa; replace aa := kb aa hb; clear hb hbox hg) | ((with_reducible refine gate_dst (N := 4) rfl ?_); refine be 4 #[.int .u64 0, .int .u64 0, .int .i64 0, .slice none 0 0] 27 ?_; intro aA hg w6 hbox hb; replace aw := ve aw hg hb; have ae := am (hbox); have eW := gq hg HB; have eX := gq hg HB; replace HB := lb HB hb; obtain ⟨az, ah, -, -⟩ := pm hg aa; replace aa := kb aa hb; obtain ⟨aC, aD, -, -⟩ := pm hg af; replace af := kb af hb; clear hb hbox hg))
 (try simp only [Act.put, List.setIfInBounds_toArray, List.set_cons_zero, List.set_cons_succ])
 go_cut [8] (fun v8 wc => ∃ (kq : Nat) (bs : Bool), v8 = .bool bs ∧ Aside0 (bottom_Merge.j0 kq bs an ao ak ai ax ay av ad = some (r1, r2, r3, r4, r5)) ∧ Aside0 (kq ≤ k) ∧ Aside0 (Kd.V k62 62 wc w.heap.size (fun k_ => (aH k_ ∨ w.heap.size ≤ k_) ∧ k_ ≠ aE ∧ k_ ≠ aJ ∧ k_ ≠ aA) (.slice aF ai.length aG) ai) ∧ Aside0 (wc.heap[aE]? = some (.cells #[.int .u64 an, .int .u64 ao, .int .i64 ak, (.slice aF ai.length aG)] 27 (0, 0))) ∧ Aside0 (wc.heap[aJ]? = some (.cells #[.int .u64 ax, .int .u64 ay, .int .i64 av, (.slice aL ad.length aM)] 27 (0, 0))) ∧ Aside0 (wc.heap[aA]? = some (.cells #[.int .u64 0, .int .u64 0, .int .i64 0, (.slice none 0 0)] 27 (0, 0))) ∧ Aside0 (Below w.heap.size w wc))
 case first =>
  have H := dh.out;clear dh;replace H := Option.bind_eq_some_iff.mp H;obtain ⟨bD, ds, H⟩ := H
  try dsimp only at H
  have A7 := am ds;clear ds
  by_cases c8 : bD = true
  ·subst c8
   have H1 : ((bottom_Right.f k ax ay av ad).bind fun aN => (bottom_Merge.j0 k (!aN) an ao ak ai ax ay av ad)) = some (r1, r2, r3, r4, r5) := by rw [if_pos rfl] at H; exact H
   clear H;have H := H1;clear H1;replace H := Option.bind_eq_some_iff.mp H;obtain ⟨aN, dt, H⟩ := H
   try dsimp only at H
   have A9 := am dt;clear dt;have H' := am H;clear H;have eY := aB.out;have eZ := aj.out;have e0 := az.out;have e1 := ah.out;obtain ⟨a1, a2, a3, a4, a5, a6, a7, a8⟩ := g4 aa
   go_wp2_with (first | ((with_reducible refine gate_callee (f := 21) rfl ?_); refine gl (some 10) Try.func21 #[.agg #[.int .u64 an, .int .u64 ao, .int .i64 ak, .slice aF ai.length aG]] ?_; (with_reducible refine (bottom_Right.calls k an ao ak _ _ ai true _ ?side1 ?side2 A7.out).mono ?_); (case side1 => repeat (first | exact (Kd.V_reads' aw.out).2.2 | (with_reducible refine Kd.C_alloc ?_ _) | (with_reducible refine Kd.C_drewN ?_ _) | (with_reducible refine Kd.C_drew ?_))); (case side2 => exact (Kd.V_reads' aw.out).2.1); rintro e fW ⟨rfl, hb⟩; refine ⟨_, rfl, ?_⟩; replace aw := vb aw hb; replace aa := kb aa hb; replace af := kb af hb; replace ae := kb ae hb; replace HB := lb HB hb; (try clear hb); (try clear hb2); (try clear hk); (try clear hi); have e2 := aC.out; have e3 := aD.out; obtain ⟨a9, a_, ba, bb, bc, bd, bg, bh⟩ := g4 af) | (go_at_call 21; (with_reducible refine (bottom_Right.calls k ax ay av _ _ ad aN _ ?side1 ?side2 A9.out).mono ?_); (case side1 => repeat (first | exact (Kd.C_below aV.out HB.out) | (with_reducible refine Kd.C_alloc ?_ _) | (with_reducible refine Kd.C_drewN ?_ _) | (with_reducible refine Kd.C_drew ?_))); (case side2 => exact br.out); rintro e fX ⟨rfl, hb⟩; replace aw := vb aw hb; replace aa := kb aa hb; replace af := kb af hb; replace ae := kb ae hb; replace HB := lb HB hb; (try clear hb); (try clear hb2); (try clear hk); (try clear hi)))
   go_meet
   case rel => exact ⟨_, (!aN), (by first | rfl | (simp; done) | (simp [*]; done)), H', ⟨by first | omega | exact Nat.le_refl _⟩, ⟨by refine pv ?_; exact Kd.V_mono aw.out (fun _ hk => ⟨hk.1.1.1, ⟨hk.1.1.2, ⟨hk.1.2, hk.2⟩⟩⟩)⟩, ⟨pk aa.out⟩, ⟨pk af.out⟩, ⟨pk ae.out⟩, ⟨pb HB⟩⟩
  ·replace c8 := Bool.eq_false_iff.mpr c8;subst c8
   have H1 : (bottom_Merge.j0 k true an ao ak ai ax ay av ad) = some (r1, r2, r3, r4, r5) := by rw [if_neg (show ¬ (false = true) by decide)] at H; exact H
   clear H;have H := H1;clear H1;have H' := am H;clear H;have e4 := aB.out;have e5 := aj.out;have e6 := az.out;have e7 := ah.out;obtain ⟨bi, bj, bk, bl, bm, bn, bo, bp⟩ := g4 aa
   go_wp2_with (first | ((with_reducible refine gate_callee (f := 21) rfl ?_); refine gl (some 10) Try.func21 #[.agg #[.int .u64 an, .int .u64 ao, .int .i64 ak, .slice aF ai.length aG]] ?_; (with_reducible refine (bottom_Right.calls k an ao ak _ _ ai false _ ?side1 ?side2 A7.out).mono ?_); (case side1 => repeat (first | exact (Kd.V_reads' aw.out).2.2 | (with_reducible refine Kd.C_alloc ?_ _) | (with_reducible refine Kd.C_drewN ?_ _) | (with_reducible refine Kd.C_drew ?_))); (case side2 => exact (Kd.V_reads' aw.out).2.1); rintro e fY ⟨rfl, hb⟩; refine ⟨_, rfl, ?_⟩; replace aw := vb aw hb; replace aa := kb aa hb; replace af := kb af hb; replace ae := kb ae hb; replace HB := lb HB hb; (try clear hb); (try clear hb2); (try clear hk); (try clear hi)))
   go_meet
   case rel => exact ⟨_, (true), (by first | rfl | (simp; done) | (simp [*]; done)), H', ⟨by first | omega | exact Nat.le_refl _⟩, ⟨by refine pv ?_; exact Kd.V_mono aw.out (fun _ hk => ⟨hk.1.1.1, ⟨hk.1.1.2, ⟨hk.1.2, hk.2⟩⟩⟩)⟩, ⟨pk aa.out⟩, ⟨pk af.out⟩, ⟨pk ae.out⟩, ⟨pb HB⟩⟩
 case rest =>
  clear dh;(try clear c1);(try clear c2);(try clear p2);(try clear c8);(try clear c10);(try clear c11);(try clear c12);(try clear c14);(try clear c17);(try clear c18);(try clear a1 a2 a3 a4);(try clear a9 a_ ba bb);(try clear bi bj bk bl);(try clear a5 a6 a7 a8);(try clear bc bd bg bh);(try clear bm bn bo bp);obtain ⟨kq, bs, rfl, HA, du, ac, aa, af, ae, HB⟩ := hcut
  cases kq with
  | zero => exact absurd HA.out (by simp [bottom_Merge.j0])
  | succ aW =>
   have H := HA.out;clear HA
   simp only [bottom_Merge.j0] at H
   by_cases bw : bs = true
   ·subst bw
    have H1 : (some (0, 0, 0, ([] : List (S62)), 1)) = some (r1, r2, r3, r4, r5) := by rw [if_pos rfl] at H; exact H
    clear H;have H := H1;clear H1
    simp only [Option.some.injEq, Prod.mk.injEq] at H
    obtain ⟨rfl, rfl, rfl, rfl, rfl⟩ := H;have e8 := ah.out;have e9 := az.out;have e_ := aD.out;have fa := aC.out;obtain ⟨bP, bQ, bR, bS, bT, bU, bV, bW⟩ := g4 ae
    go_wp2
    refine bodyPost_ret (results_ct rfl _ _ aA 27 #[.int .u64 0, .int .u64 0, .int .i64 0, .slice none 0 0] (0, 0) _ rfl (by refine pk ?_; refine blk_put (cs := #[.int .u64 0, .int .u64 0, .int .i64 0, .slice none 0 0]) ?_ 3 _ rfl; refine pk ?_; refine blk_put (cs := #[.int .u64 0, .int .u64 0, .int .i64 0, .slice none 0 0]) ?_ 2 _ rfl; refine pk ?_; refine blk_put (cs := #[.int .u64 0, .int .u64 0, .int .i64 0, .slice none 0 0]) ?_ 1 _ rfl; refine pk ?_; refine blk_put (cs := #[.int .u64 0, .int .u64 0, .int .i64 0, .slice none 0 0]) ?_ 0 _ rfl; refine pk ?_; exact ae.out) Try.underlying27 rfl (by kernel_rfl)) rfl ?_
    exact ⟨_, by first | rfl | (simp [errW_none, errW_some] <;> rfl) | (simp [*, errW_none, errW_some] <;> rfl), Kd.V_nil _ _ _ _ _, pb HB⟩
   ·replace bw := Bool.eq_false_iff.mpr bw;subst bw
    have H1 : (if (!(an == ax) || (!(ao == ay))) = true then (some (0, 0, 0, ([] : List (S62)), 9)) else (if ak = av then ((bottom_wraps.f aW an ao ak ai ax ay av ad).bind fun bE => (if bE = true then (some (0, 0, 0, ([] : List (S62)), 12)) else (bottom_Merge.l0 aW ad (ad.length : Int) 0 an ao ak ai))) else (some (0, 0, 0, ([] : List (S62)), 10)))) = some (r1, r2, r3, r4, r5) := by rw [if_neg (show ¬ (false = true) by decide)] at H; exact H
    clear H;have H := H1;clear H1
    by_cases aX : (!(an == ax) || (!(ao == ay))) = true
    ·rw [if_pos aX] at H;have bJ : (!(an == ax) || (!(ao == ay))) = true := aX;clear aX
     simp only [Option.some.injEq, Prod.mk.injEq] at H
     obtain ⟨rfl, rfl, rfl, rfl, rfl⟩ := H;have fb := aB.out;have fc := aj.out;have fd := az.out;have fe := ah.out;obtain ⟨bX, bY, bZ, b0, b1, b2, b3, b4⟩ := g4 aa;have ff := aC.out;have fg := aD.out;obtain ⟨b5, b6, b7, b8, b9, b_, ca, cb⟩ := g4 af;obtain ⟨cc, cd, cf, cg, ch, ci, cj, ck⟩ := g4 ae
     go_wp2
     refine bodyPost_ret (results_ct rfl _ _ aA 27 #[.int .u64 0, .int .u64 0, .int .i64 0, .slice none 0 0] (0, 0) _ rfl (by refine pk ?_; refine blk_put (cs := #[.int .u64 0, .int .u64 0, .int .i64 0, .slice none 0 0]) ?_ 3 _ rfl; refine pk ?_; refine blk_put (cs := #[.int .u64 0, .int .u64 0, .int .i64 0, .slice none 0 0]) ?_ 2 _ rfl; refine pk ?_; refine blk_put (cs := #[.int .u64 0, .int .u64 0, .int .i64 0, .slice none 0 0]) ?_ 1 _ rfl; refine pk ?_; refine blk_put (cs := #[.int .u64 0, .int .u64 0, .int .i64 0, .slice none 0 0]) ?_ 0 _ rfl; refine pk ?_; exact ae.out) Try.underlying27 rfl (by kernel_rfl)) rfl ?_
     exact ⟨_, by first | rfl | (simp [errW_none, errW_some] <;> rfl) | (simp [*, errW_none, errW_some] <;> rfl), Kd.V_nil _ _ _ _ _, pb HB⟩
    ·rw [if_neg aX] at H
     have bJ : (!(an == ax) || (!(ao == ay))) = false := by simpa using aX
     clear aX
     by_cases aU : ak = av
     ·rw [if_pos aU] at H;have bK : (ak == av) = true := beq_iff_eq.mpr aU;have bL : (ak != av) = false := bne_eq_false_iff_eq.mpr aU;clear aU;replace H := Option.bind_eq_some_iff.mp H;obtain ⟨bE, di, H⟩ := H
      try dsimp only at H
      have dv := am di;clear di
      by_cases bz : bE = true
      ·subst bz
       have H1 : (some (0, 0, 0, ([] : List (S62)), 12)) = some (r1, r2, r3, r4, r5) := by rw [if_pos rfl] at H; exact H
       clear H;have H := H1;clear H1
       simp only [Option.some.injEq, Prod.mk.injEq] at H
       obtain ⟨rfl, rfl, rfl, rfl, rfl⟩ := H;have fh := aB.out;have fi := aj.out;have fj := az.out;have fk := ah.out;obtain ⟨cl, cm, cn, cp, cq, cr, ct, cu⟩ := g4 aa;have fl := aC.out;have fm := aD.out;obtain ⟨cv, cw, cx, cy, cz, cA, cB, cC⟩ := g4 af
       go_wp2_with (first | ((with_reducible refine gate_callee (f := 27) rfl ?_); refine gl (some 35) Try.func27 #[.agg #[.int .u64 an, .int .u64 ao, .int .i64 ak, .slice aF ai.length aG], .agg #[.int .u64 ax, .int .u64 ay, .int .i64 av, .slice aL ad.length aM]] ?_; (with_reducible refine (bottom_wraps.calls aW an ao ak _ _ ai ax ay av _ _ ad true _ ?side1 ?side2 ?side3 ?side4 dv.out).mono ?_); (case side1 => repeat (first | exact (Kd.V_reads' ac.out).2.2 | (with_reducible refine Kd.C_alloc ?_ _) | (with_reducible refine Kd.C_drewN ?_ _) | (with_reducible refine Kd.C_drew ?_))); (case side2 => exact (Kd.V_reads' ac.out).2.1); (case side3 => repeat (first | exact (Kd.C_below aV.out HB.out) | (with_reducible refine Kd.C_alloc ?_ _) | (with_reducible refine Kd.C_drewN ?_ _) | (with_reducible refine Kd.C_drew ?_))); (case side4 => exact br.out); rintro e fZ ⟨rfl, hb⟩; refine ⟨_, rfl, ?_⟩; replace ac := vb ac hb; replace aa := kb aa hb; replace af := kb af hb; replace ae := kb ae hb; replace HB := lb HB hb; (try clear hb); (try clear hb2); (try clear hk); (try clear hi); obtain ⟨cD, cE, cF, cG, cH, cI, cJ, cK⟩ := g4 ae))
       refine bodyPost_ret (results_ct rfl _ _ aA 27 #[.int .u64 0, .int .u64 0, .int .i64 0, .slice none 0 0] (0, 0) _ rfl (by refine pk ?_; refine blk_put (cs := #[.int .u64 0, .int .u64 0, .int .i64 0, .slice none 0 0]) ?_ 3 _ rfl; refine pk ?_; refine blk_put (cs := #[.int .u64 0, .int .u64 0, .int .i64 0, .slice none 0 0]) ?_ 2 _ rfl; refine pk ?_; refine blk_put (cs := #[.int .u64 0, .int .u64 0, .int .i64 0, .slice none 0 0]) ?_ 1 _ rfl; refine pk ?_; refine blk_put (cs := #[.int .u64 0, .int .u64 0, .int .i64 0, .slice none 0 0]) ?_ 0 _ rfl; refine pk ?_; exact ae.out) Try.underlying27 rfl (by kernel_rfl)) rfl ?_
       exact ⟨_, by first | rfl | (simp [errW_none, errW_some] <;> rfl) | (simp [*, errW_none, errW_some] <;> rfl), Kd.V_nil _ _ _ _ _, pb HB⟩
      ·replace bz := Bool.eq_false_iff.mpr bz;subst bz
       have H1 : (bottom_Merge.l0 aW ad (ad.length : Int) 0 an ao ak ai) = some (r1, r2, r3, r4, r5) := by rw [if_neg (show ¬ (false = true) by decide)] at H; exact H
       clear H;have H := H1;clear H1;have H' := am H;clear H;have fn := aB.out;have fo := aj.out;have fp := az.out;have fq := ah.out;obtain ⟨cL, cM, cN, cO, cP, cQ, cR, cS⟩ := g4 aa;have fr := aC.out;have fs := aD.out;obtain ⟨cT, cU, cV, cW, cX, cY, cZ, c0⟩ := g4 af
       go_wp2_with (first | ((with_reducible refine gate_callee (f := 27) rfl ?_); refine gl (some 35) Try.func27 #[.agg #[.int .u64 an, .int .u64 ao, .int .i64 ak, .slice aF ai.length aG], .agg #[.int .u64 ax, .int .u64 ay, .int .i64 av, .slice aL ad.length aM]] ?_; (with_reducible refine (bottom_wraps.calls aW an ao ak _ _ ai ax ay av _ _ ad false _ ?side1 ?side2 ?side3 ?side4 dv.out).mono ?_); (case side1 => repeat (first | exact (Kd.V_reads' ac.out).2.2 | (with_reducible refine Kd.C_alloc ?_ _) | (with_reducible refine Kd.C_drewN ?_ _) | (with_reducible refine Kd.C_drew ?_))); (case side2 => exact (Kd.V_reads' ac.out).2.1); (case side3 => repeat (first | exact (Kd.C_below aV.out HB.out) | (with_reducible refine Kd.C_alloc ?_ _) | (with_reducible refine Kd.C_drewN ?_ _) | (with_reducible refine Kd.C_drew ?_))); (case side4 => exact br.out); rintro e f3 ⟨rfl, hb⟩; refine ⟨_, rfl, ?_⟩; replace ac := vb ac hb; replace aa := kb aa hb; replace af := kb af hb; replace ae := kb ae hb; replace HB := lb HB hb; (try clear hb); (try clear hb2); (try clear hk); (try clear hi); obtain ⟨c_, da, db, dc, dd, de, df, dg⟩ := g4 af))
       go_loopg [40] aW (fun kq eP w' => ∃ (ag : Int) (ap : Int) (aq : Int) (ar : Int) (au : List (S62)) (aO : Value), eP = .int .i64 ag ∧ Aside0 (bottom_Merge.l0 kq ad (ad.length : Int) ag ap aq ar au = some (r1, r2, r3, r4, r5)) ∧ Aside0 (kq ≤ aW) ∧ Aside0 (Kd.V k62 62 w' w.heap.size (fun k_ => (aH k_ ∨ w.heap.size ≤ k_) ∧ k_ ≠ aE ∧ k_ ≠ aJ ∧ k_ ≠ aA) aO au) ∧ Aside0 (w'.heap[aE]? = some (.cells #[.int .u64 ap, .int .u64 aq, .int .i64 ar, aO] 27 (0, 0))) ∧ Aside0 (w'.heap[aJ]? = some (.cells #[.int .u64 ax, .int .u64 ay, .int .i64 av, (.slice aL ad.length aM)] 27 (0, 0))) ∧ Aside0 (w'.heap[aA]? = some (.cells #[.int .u64 0, .int .u64 0, .int .i64 0, (.slice none 0 0)] 27 (0, 0))) ∧ Aside0 (Below w.heap.size w w'))
       case atStart => exact ⟨(0), (an), (ao), (ak), (ai), (.slice aF ai.length aG), (by first | rfl | (simp; done) | (simp [*]; done)), H', ⟨Nat.le_refl _⟩, ⟨pv ac.out⟩, ⟨pk aa.out⟩, ⟨pk af.out⟩, ⟨pk ae.out⟩, ⟨pb HB⟩⟩
       case round =>
        clear H';(try clear c1);(try clear c2);(try clear p2);(try clear c3);(try clear c4);(try clear c8);(try clear c10);(try clear c11);(try clear c12);(try clear c14);(try clear c17);(try clear c18);(try clear bw);(try clear c22);(try clear c23);(try clear aX);(try clear bJ);(try clear c26);(try clear c27);(try clear c29);(try clear aU);(try clear bK);(try clear bL);(try clear bz);(try clear c35);(try clear c36);(try clear c38);(try clear c42);(try clear c43);(try clear c45);(try clear a1 a2 a3 a4);(try clear a9 a_ ba bb);(try clear bi bj bk bl);(try clear bP bQ bR bS);(try clear bX bY bZ b0);(try clear b5 b6 b7 b8);(try clear cc cd cf cg);(try clear cl cm cn cp);(try clear cv cw cx cy);(try clear cD cE cF cG);(try clear cL cM cN cO);(try clear cT cU cV cW);(try clear c_ da db dc);(try clear a5 a6 a7 a8);(try clear bc bd bg bh);(try clear bm bn bo bp);(try clear bT bU bV bW);(try clear b1 b2 b3 b4);(try clear b9 b_ ca cb);(try clear ch ci cj ck);(try clear cq cr ct cu);(try clear cz cA cB cC);(try clear cH cI cJ cK);(try clear cP cQ cR cS);(try clear cX cY cZ c0);(try clear dd de df dg);(try clear p2);obtain ⟨ag, ap, aq, ar, au, aO, rfl, HA, HK2, ac, aa, af, ae, HB⟩ := hrel
        cases gk with
        | zero => exact absurd HA.out (by simp [bottom_Merge.l0])
        | succ k2 =>
         have H := HA.out;clear HA
         simp only [bottom_Merge.l0] at H
         by_cases bq : ag < (ad.length : Int)
         ·rw [if_pos bq] at H;have dq : decide (ag < (ad.length : Int)) = true := decide_eq_true bq;clear bq
          by_cases bM : 0 ≤ ag
          ·rw [if_pos bM] at H;have ft : decide (0 ≤ ag) = true := decide_eq_true bM;clear bM
           by_cases bN : ag < (ad.length : Int)
           ·rw [if_pos bN] at H;have fu : decide (ag < (ad.length : Int)) = true := decide_eq_true bN;clear bN;replace H := Option.bind_eq_some_iff.mp H;obtain ⟨⟨aP, aY, bu, bv, dA⟩, dj, H⟩ := H
            try dsimp only at H
            have eQ := am dj;clear dj;have H' := am H;clear H;have bF : 0 ≤ (ag : Int) := of_decide_eq_true (by first | (with_reducible assumption) | assumption);have bG : ag < (ad.length : Int) := of_decide_eq_true (by first | (with_reducible assumption) | assumption);obtain ⟨fv, dB, aQ, aR, aS, aT⟩ := at_T62 aV.out ag bF bG;cases dB;replace aQ := (HB.out.cell (World.block_lt_of_cell? w _ aQ)).trans aQ;replace aR := (HB.out.cell (World.block_lt_of_cell? w _ aR)).trans aR;replace aS := (HB.out.cell (World.block_lt_of_cell? w _ aS)).trans aS;replace aT := (HB.out.cell (World.block_lt_of_cell? w _ aT)).trans aT;replace bF := eq_true bF;replace bG := eq_true bG
            go_wp2_with (first | ((with_reducible refine gate_dst (N := 7) rfl ?_); refine be 7 #[.string (⟨#[]⟩ : ByteArray), .int .u64 0, .int .u64 0, .int .u64 0] 62 ?_; intro aK hg eR hbox hb; replace ac := ve ac hg hb; have aI := am (hbox); have fw := gq hg HB; have fx := gq hg HB; replace HB := lb HB hb; obtain ⟨bA, dw, fy, fA⟩ := pm hg aa; replace aa := kb aa hb; obtain ⟨bB, dx, fB, fC⟩ := pm hg af; replace af := kb af hb; obtain ⟨bC, dy, fD, fE⟩ := pm hg ae; replace ae := kb ae hb; clear hb hbox hg; obtain ⟨dF, dG, dH, dI, dJ, dK, dL, dM⟩ := g4 aI) | ((with_reducible refine gate_store (t := 62) (p := 7) rfl ?_); refine store_event (t := 62) (p := 7) (v := ?vo_w58) (w1 := ((((eR.setCell ⟨aK, 0, none⟩ (.string ((rd_T62 ad ag).f0))).setCell ⟨aK, 1, none⟩ (.int .u64 ((rd_T62 ad ag).f1))).setCell ⟨aK, 2, none⟩ (.int .u64 ((rd_T62 ad ag).f2.f0))).setCell ⟨aK, 3, none⟩ (.int .u64 ((rd_T62 ad ag).f2.f1)))) ?hg ?ho ?hn ?hr ?_; (case ho => rfl); (case hg => rfl); (case hn => rfl); (case hr => first | (go_simp; done) | (go_simp; rfl)); intro f5 hw; replace ac := vf (f4 hw) ac (fun _ hk => hk.2); replace aa := bf (f4 hw) aa bA.out; replace af := bf (f4 hw) af bB.out; replace ae := bf (f4 hw) ae bC.out; replace aI := s4 hw aI; replace HB := lf (f4 hw) HB; (try simp only [and_assoc] at ac); clear hw; have fF := aB.out; have fG := aj.out; have fH := az.out; have fI := ah.out; obtain ⟨dN, dO, dP, dQ, dR, dS, dT, dU⟩ := g4 aa; obtain ⟨dV, dW, dX, dY, dZ, d0, d1, d2⟩ := g4 aI; obtain ⟨aZ, a0, dC⟩ := Kd.V_slice ac.out; subst dC) | ((with_reducible refine gate_callee (f := 28) rfl ?_); refine gl (some 47) Try.func28 #[.agg #[.int .u64 ap, .int .u64 aq, .int .i64 ar, .slice aZ au.length a0], .agg #[.string ((rd_T62 ad ag).f0), .int .u64 ((rd_T62 ad ag).f1), .int .u64 ((rd_T62 ad ag).f2.f0), .int .u64 ((rd_T62 ad ag).f2.f1)]] ?_; (with_reducible refine (bottom_add.calls k2 ap aq ar (fun k_ => ((aH k_ ∨ w.heap.size ≤ k_) ∧ (k_ ≠ aE ∧ (k_ ≠ aJ ∧ (k_ ≠ aA ∧ k_ ≠ aK))))) _ _ au ((rd_T62 ad ag).f0) ((rd_T62 ad ag).f1) ((rd_T62 ad ag).f2.f0) ((rd_T62 ad ag).f2.f1) aP aY bu bv dA _ ?side1 eQ.out).mono ?_); (case side1 => exact ac.out); rintro e f6 ⟨fV, rfl, dz, hb⟩; refine ⟨_, rfl, ?_⟩; replace ac := vb ac hb; have bO := am (Kd.V_lower (Kd.V_mono (ok' := fun k_ => (aH k_ ∨ w.heap.size ≤ k_) ∧ k_ ≠ aE ∧ k_ ≠ aJ ∧ k_ ≠ aA ∧ k_ ≠ aK) dz (fun k_ hk_ => ⟨Or.elim hk_ (fun hs_ => hs_.1) (fun hn_ => (.inr (Nat.le_trans (below_size (pb HB)) hn_))), Or.elim hk_ (fun hs_ => hs_.2.1) (fun hn_ => (nb aa k_ hn_)), Or.elim hk_ (fun hs_ => hs_.2.2.1) (fun hn_ => (nb af k_ hn_)), Or.elim hk_ (fun hs_ => hs_.2.2.2.1) (fun hn_ => (nb ae k_ hn_)), Or.elim hk_ (fun hs_ => hs_.2.2.2.2) (fun hn_ => (nb aI k_ hn_))⟩)) (below_size (pb HB))); replace aa := kb aa hb; replace af := kb af hb; replace ae := kb ae hb; replace aI := kb aI hb; replace HB := lb HB hb; (try clear hb); (try clear hb2); (try clear hk); (try clear hi); (try clear dz); obtain ⟨d3, d4, d5, d6, d7, d8, d9, d_⟩ := g4 aa; obtain ⟨dk, dl, dD⟩ := Kd.V_slice bO.out; subst dD))
            go_roundg k2
            case measure => have := du.out; have := HK2.out; omega
            case rel => exact ⟨(wrap64 (ag + 1)), (aP), (aY), (bu), (bv), (.slice dk bv.length dl), (by first | rfl | (simp; done) | (simp [*]; done)), H', ⟨by have := du.out; have := HK2.out; omega⟩, ⟨by refine pv ?_; exact Kd.V_mono (Kd.V_far (p := ⟨aE, 3, none⟩) (Kd.V_far (p := ⟨aE, 2, none⟩) (Kd.V_far (p := ⟨aE, 1, none⟩) (Kd.V_far (p := ⟨aE, 0, none⟩) (Kd.V_mono bO.out (fun k_ hk => (⟨hk, hk.2.1⟩ : _ ∧ k_ ≠ aE))) (fun _ hk => hk.2) (.int .u64 aP)) (fun _ hk => hk.2) (.int .u64 aY)) (fun _ hk => hk.2) (.int .i64 bu)) (fun _ hk => hk.2) (.slice dk bv.length dl)) (fun _ hk => ⟨hk.1.1, ⟨hk.1.2.1, ⟨hk.1.2.2.1, hk.1.2.2.2.1⟩⟩⟩)⟩, ⟨by refine pk ?_; refine blk_put (cs := #[.int .u64 aP, .int .u64 aY, .int .i64 bu, .slice aZ au.length a0]) ?_ 3 _ rfl; refine pk ?_; refine blk_put (cs := #[.int .u64 aP, .int .u64 aY, .int .i64 ar, .slice aZ au.length a0]) ?_ 2 _ rfl; refine pk ?_; refine blk_put (cs := #[.int .u64 aP, .int .u64 aq, .int .i64 ar, .slice aZ au.length a0]) ?_ 1 _ rfl; refine pk ?_; refine blk_put (cs := #[.int .u64 ap, .int .u64 aq, .int .i64 ar, .slice aZ au.length a0]) ?_ 0 _ rfl; refine pk ?_; exact aa.out⟩, ⟨by refine pk ?_; refine blk_far ?_ aj.out _; refine pk ?_; refine blk_far ?_ aj.out _; refine pk ?_; refine blk_far ?_ aj.out _; refine pk ?_; refine blk_far ?_ aj.out _; refine pk ?_; exact af.out⟩, ⟨by refine pk ?_; refine blk_far ?_ ah.out _; refine pk ?_; refine blk_far ?_ ah.out _; refine pk ?_; refine blk_far ?_ ah.out _; refine pk ?_; refine blk_far ?_ ah.out _; refine pk ?_; exact ae.out⟩, ⟨pb HB⟩⟩
           ·rw [if_neg bN] at H;exact absurd H (by simp)
          ·rw [if_neg bM] at H;exact absurd H (by simp)
         ·rw [if_neg bq] at H;have dq : decide (ag < (ad.length : Int)) = false := decide_eq_false bq;clear bq
          simp only [Option.some.injEq, Prod.mk.injEq] at H
          obtain ⟨rfl, rfl, rfl, rfl, rfl⟩ := H;have fJ := aB.out;have fK := aj.out;have fL := az.out;have fM := ah.out;obtain ⟨ea, eb, ec, ed, ee, ef, eg, eh⟩ := g4 aa;have fN := aD.out;have fO := aC.out;obtain ⟨ei, ej, ek, em, en, eo, ep, eq⟩ := g4 ae;obtain ⟨dm, dn, dE⟩ := Kd.V_slice ac.out;subst dE
          go_wp2
          refine bodyPost_ret (results_ct rfl _ _ aA 27 #[.int .u64 ap, .int .u64 aq, .int .i64 ar, .slice dm au.length dn] (0, 0) _ rfl (by refine pk ?_; refine blk_put (cs := #[.int .u64 ap, .int .u64 aq, .int .i64 ar, .slice none 0 0]) ?_ 3 _ rfl; refine pk ?_; refine blk_put (cs := #[.int .u64 ap, .int .u64 aq, .int .i64 0, .slice none 0 0]) ?_ 2 _ rfl; refine pk ?_; refine blk_put (cs := #[.int .u64 ap, .int .u64 0, .int .i64 0, .slice none 0 0]) ?_ 1 _ rfl; refine pk ?_; refine blk_put (cs := #[.int .u64 0, .int .u64 0, .int .i64 0, .slice none 0 0]) ?_ 0 _ rfl; refine pk ?_; exact ae.out) Try.underlying27 rfl (by kernel_rfl)) rfl ?_
          exact ⟨_, by first | rfl | (simp [errW_none, errW_some] <;> rfl) | (simp [*, errW_none, errW_some] <;> rfl), by refine pv ?_; exact Kd.V_mono (Kd.V_far (p := ⟨aA, 3, none⟩) (Kd.V_far (p := ⟨aA, 2, none⟩) (Kd.V_far (p := ⟨aA, 1, none⟩) (Kd.V_far (p := ⟨aA, 0, none⟩) (Kd.V_mono ac.out (fun k_ hk => (⟨hk, hk.2.2.2⟩ : _ ∧ k_ ≠ aA))) (fun _ hk => hk.2) (.int .u64 ap)) (fun _ hk => hk.2) (.int .u64 aq)) (fun _ hk => hk.2) (.int .i64 ar)) (fun _ hk => hk.2) (.slice dm au.length dn)) (fun _ hk => hk.1.1), pb HB⟩
     ·rw [if_neg aU] at H;have bK : (ak == av) = false := beq_eq_false_iff_ne.mpr aU;have bL : (ak != av) = true := bne_iff_ne.mpr aU
      simp only [Option.some.injEq, Prod.mk.injEq] at H
      obtain ⟨rfl, rfl, rfl, rfl, rfl⟩ := H;have fP := aB.out;have fQ := aj.out;have fR := az.out;have fS := ah.out;obtain ⟨er, es, et, eu, ev, ew, ex, ey⟩ := g4 aa;have fT := aC.out;have fU := aD.out;obtain ⟨ez, eA, eB, eC, eD, eE, eF, eG⟩ := g4 af;obtain ⟨eH, eI, eJ, eK, eL, eM, eN, eO⟩ := g4 ae
      go_wp2
      refine bodyPost_ret (results_ct rfl _ _ aA 27 #[.int .u64 0, .int .u64 0, .int .i64 0, .slice none 0 0] (0, 0) _ rfl (by refine pk ?_; refine blk_put (cs := #[.int .u64 0, .int .u64 0, .int .i64 0, .slice none 0 0]) ?_ 3 _ rfl; refine pk ?_; refine blk_put (cs := #[.int .u64 0, .int .u64 0, .int .i64 0, .slice none 0 0]) ?_ 2 _ rfl; refine pk ?_; refine blk_put (cs := #[.int .u64 0, .int .u64 0, .int .i64 0, .slice none 0 0]) ?_ 1 _ rfl; refine pk ?_; refine blk_put (cs := #[.int .u64 0, .int .u64 0, .int .i64 0, .slice none 0 0]) ?_ 0 _ rfl; refine pk ?_; exact ae.out) Try.underlying27 rfl (by kernel_rfl)) rfl ?_
      exact ⟨_, by first | rfl | (simp [errW_none, errW_some] <;> rfl) | (simp [*, errW_none, errW_some] <;> rfl), Kd.V_nil _ _ _ _ _, pb HB⟩
def bottom_New.f (a0_0 : Int) (a0_1 : Int) (a1 : Int) : Option (Int × Int × Int × (List (S62)) × Int) := if a1 < 1 then (some (0, 0, 0, ([] : List (S62)), 1)) else (if a1 > 1024 then (some (0, 0, 0, ([] : List (S62)), 1)) else (some (a0_0, a0_1, a1, ([] : List (S62)), 0)))
set_option maxHeartbeats 8000000 in
set_option maxRecDepth 100000 in
theorem bottom_New.calls (ad : Int) (ae : Int) (a1 : Int) (r1 : Int) (r2 : Int) (r3 : Int) (r4 : List (S62)) (r5 : Int) (w : World) (h : bottom_New.f ad ae a1 = some (r1, r2, r3, r4, r5)) :
  Calls Try.prog 16 #[.agg #[.int .u64 ad, .int .u64 ae], .int .i64 a1] w fun e w' => ∃ ap : Value, e = .returned (.tuple #[.agg #[.int .u64 r1, .int .u64 r2, .int .i64 r3, ap], .int .i64 r5]) ∧ Kd.V k62 62 w' w.heap.size (fun k_ => (w.heap.size ≤ k_)) ap r4 ∧ Below w.heap.size w w' := by
 have hu24 := Try.underlying24;have hu27 := Try.underlying27;have HB := am (Below.refl w.heap.size w);have H : (if a1 < 1 then (some (0, 0, 0, ([] : List (S62)), 1)) else (if a1 > 1024 then (some (0, 0, 0, ([] : List (S62)), 1)) else (some (ad, ae, a1, ([] : List (S62)), 0)))) = some (r1, r2, r3, r4, r5) := h;clear h
 by_cases c3 : a1 < 1
 ·rw [if_pos c3] at H;have aq : decide (a1 < 1) = true := decide_eq_true c3;clear c3
  simp only [Option.some.injEq, Prod.mk.injEq] at H
  obtain ⟨rfl, rfl, rfl, rfl, rfl⟩ := H
  go_enter Try.func16, Try.ntmps16
  go_wp2_with (first | ((with_reducible refine gate_dst (N := 2) rfl ?_); refine be 2 #[.int .u64 ad, .int .u64 ae] 24 ?_; intro ai hg w4 hbox hb; have aa := am (hbox); have aj := gq hg HB; have ak := gq hg HB; replace HB := lb HB hb; clear hb hbox hg) | ((with_reducible refine gate_dst (N := 4) rfl ?_); refine be 4 #[.int .u64 0, .int .u64 0, .int .i64 0, .slice none 0 0] 27 ?_; intro af hg w5 hbox hb; have ac := am (hbox); have an := gq hg HB; have ao := gq hg HB; replace HB := lb HB hb; obtain ⟨ag, ah, a0, a2⟩ := pm hg aa; replace aa := kb aa hb; clear hb hbox hg; obtain ⟨aO, aP, aQ, aR, aS, aT, aU, aV⟩ := g4 ac))
  refine bodyPost_ret (results_ct rfl _ _ af 27 #[.int .u64 0, .int .u64 0, .int .i64 0, .slice none 0 0] (0, 0) _ rfl (by refine pk ?_; refine blk_put (cs := #[.int .u64 0, .int .u64 0, .int .i64 0, .slice none 0 0]) ?_ 3 _ rfl; refine pk ?_; refine blk_put (cs := #[.int .u64 0, .int .u64 0, .int .i64 0, .slice none 0 0]) ?_ 2 _ rfl; refine pk ?_; refine blk_put (cs := #[.int .u64 0, .int .u64 0, .int .i64 0, .slice none 0 0]) ?_ 1 _ rfl; refine pk ?_; refine blk_put (cs := #[.int .u64 0, .int .u64 0, .int .i64 0, .slice none 0 0]) ?_ 0 _ rfl; refine pk ?_; exact ac.out) Try.underlying27 rfl (by kernel_rfl)) rfl ?_
  exact ⟨_, by first | rfl | (simp [errW_none, errW_some] <;> rfl) | (simp [*, errW_none, errW_some] <;> rfl), Kd.V_nil _ _ _ _ _, pb HB⟩
 rw [if_neg c3] at H;have aq : decide (a1 < 1) = false := decide_eq_false c3;clear c3
 by_cases c8 : a1 > 1024
 ·rw [if_pos c8] at H;have ar : decide (1024 < a1) = true := decide_eq_true c8;clear c8
  simp only [Option.some.injEq, Prod.mk.injEq] at H
  obtain ⟨rfl, rfl, rfl, rfl, rfl⟩ := H
  go_enter Try.func16, Try.ntmps16
  go_wp2_with (first | ((with_reducible refine gate_dst (N := 2) rfl ?_); refine be 2 #[.int .u64 ad, .int .u64 ae] 24 ?_; intro ai hg w9 hbox hb; have aa := am (hbox); have aj := gq hg HB; have ak := gq hg HB; replace HB := lb HB hb; clear hb hbox hg) | ((with_reducible refine gate_dst (N := 4) rfl ?_); refine be 4 #[.int .u64 0, .int .u64 0, .int .i64 0, .slice none 0 0] 27 ?_; intro af hg a3 hbox hb; have ac := am (hbox); have an := gq hg HB; have ao := gq hg HB; replace HB := lb HB hb; obtain ⟨ag, ah, aW, aX⟩ := pm hg aa; replace aa := kb aa hb; clear hb hbox hg; obtain ⟨au, av, aw, ax, ay, az, aA, aB⟩ := g4 ac))
  refine bodyPost_ret (results_ct rfl _ _ af 27 #[.int .u64 0, .int .u64 0, .int .i64 0, .slice none 0 0] (0, 0) _ rfl (by refine pk ?_; refine blk_put (cs := #[.int .u64 0, .int .u64 0, .int .i64 0, .slice none 0 0]) ?_ 3 _ rfl; refine pk ?_; refine blk_put (cs := #[.int .u64 0, .int .u64 0, .int .i64 0, .slice none 0 0]) ?_ 2 _ rfl; refine pk ?_; refine blk_put (cs := #[.int .u64 0, .int .u64 0, .int .i64 0, .slice none 0 0]) ?_ 1 _ rfl; refine pk ?_; refine blk_put (cs := #[.int .u64 0, .int .u64 0, .int .i64 0, .slice none 0 0]) ?_ 0 _ rfl; refine pk ?_; exact ac.out) Try.underlying27 rfl (by kernel_rfl)) rfl ?_
  exact ⟨_, by first | rfl | (simp [errW_none, errW_some] <;> rfl) | (simp [*, errW_none, errW_some] <;> rfl), Kd.V_nil _ _ _ _ _, pb HB⟩
 rw [if_neg c8] at H;have ar : decide (1024 < a1) = false := decide_eq_false c8;clear c8
 simp only [Option.some.injEq, Prod.mk.injEq] at H
 obtain ⟨rfl, rfl, rfl, rfl, rfl⟩ := H
 go_enter Try.func16, Try.ntmps16
 go_wp2_with (first | ((with_reducible refine gate_dst (N := 2) rfl ?_); refine be 2 #[.int .u64 ad, .int .u64 ae] 24 ?_; intro ai hg a4 hbox hb; have aa := am (hbox); have aj := gq hg HB; have ak := gq hg HB; replace HB := lb HB hb; clear hb hbox hg) | ((with_reducible refine gate_dst (N := 4) rfl ?_); refine be 4 #[.int .u64 0, .int .u64 0, .int .i64 0, .slice none 0 0] 27 ?_; intro af hg a5 hbox hb; have ac := am (hbox); have an := gq hg HB; have ao := gq hg HB; replace HB := lb HB hb; obtain ⟨ag, ah, aY, aZ⟩ := pm hg aa; replace aa := kb aa hb; clear hb hbox hg; obtain ⟨aC, aD, aE, aF⟩ := g2 aa; obtain ⟨aG, aH, aI, aJ, aK, aL, aM, aN⟩ := g4 ac))
 refine bodyPost_ret (results_ct rfl _ _ af 27 #[.int .u64 ad, .int .u64 ae, .int .i64 a1, .slice none 0 0] (0, 0) _ rfl (by refine pk ?_; refine blk_put (cs := #[.int .u64 ad, .int .u64 ae, .int .i64 a1, .slice none 0 0]) ?_ 3 _ rfl; refine pk ?_; refine blk_put (cs := #[.int .u64 ad, .int .u64 ae, .int .i64 0, .slice none 0 0]) ?_ 2 _ rfl; refine pk ?_; refine blk_put (cs := #[.int .u64 ad, .int .u64 0, .int .i64 0, .slice none 0 0]) ?_ 1 _ rfl; refine pk ?_; refine blk_put (cs := #[.int .u64 0, .int .u64 0, .int .i64 0, .slice none 0 0]) ?_ 0 _ rfl; refine pk ?_; exact ac.out) Try.underlying27 rfl (by kernel_rfl)) rfl ?_
 exact ⟨_, by first | rfl | (simp [errW_none, errW_some] <;> rfl) | (simp [*, errW_none, errW_some] <;> rfl), Kd.V_nil _ _ _ _ _, pb HB⟩
def wide_Of.f (a0 : Int) : Option (Int × Int) := some (0, a0)
set_option maxHeartbeats 8000000 in
set_option maxRecDepth 100000 in
theorem wide_Of.calls (a0 : Int) (r1 : Int) (r2 : Int) (w : World) (h : wide_Of.f a0 = some (r1, r2)) :
  Calls Try.prog 18 #[.int .u64 a0] w fun e w' => e = .returned (.agg #[.int .u64 r1, .int .u64 r2]) ∧ Below w.heap.size w w' := by
 have hu50 := Try.underlying50;have HB := am (Below.refl w.heap.size w);have H : (some (0, a0)) = some (r1, r2) := h;clear h
 simp only [Option.some.injEq, Prod.mk.injEq] at H
 obtain ⟨rfl, rfl⟩ := H
 go_enter Try.func18, Try.ntmps18
 go_wp2_with (first | ((with_reducible refine gate_dst (N := 2) rfl ?_); refine be 2 #[.int .u64 0, .int .u64 0] 50 ?_; intro ac hg w2 hbox hb; have aa := am (hbox); have ah := gq hg HB; have ai := gq hg HB; replace HB := lb HB hb; clear hb hbox hg; obtain ⟨ad, ae, af, ag⟩ := g2 aa))
 refine bodyPost_ret (results_cell_row rfl _ _ ac 50 #[.int .u64 0, .int .u64 a0] (0, 0) _ rfl (by refine pk ?_; refine blk_put (cs := #[.int .u64 0, .int .u64 0]) ?_ 1 _ rfl; refine pk ?_; refine blk_put (cs := #[.int .u64 0, .int .u64 0]) ?_ 0 _ rfl; refine pk ?_; exact aa.out) Try.underlying50 rfl (by kernel_rfl)) rfl ?_
 exact ⟨by first | rfl | (simp [errW_none, errW_some] <;> rfl) | (simp [*, errW_none, errW_some] <;> rfl), pb HB⟩

end Go.Proofs.Ytmfffbafldbihaa.H
