import Derived.Test.YtmfffbafldbihaaHx0
import Derived.Test.YtmfffbafldbihaaHx2
import Derived.Test.YtmfffbafldbihaaHx4
import Derived.Test.YtmfffbafldbihaaHx8
namespace Go.Proofs.Ytmfffbafldbihaa.H
open Go.RowKit Go.Proofs.YtmfffbafldbihaaW.PrintWords Go.Proofs.YtmfffbafldbihaaW.PrintLast Go.Proofs.YtmfffbafldbihaaW.PrintMore Go.Proofs.YtmfffbafldbihaaW.Sq
attribute [local go_sem] max2_int min2_int max_two min_two max_three min_three max_four min_four
set_option linter.unusedVariables false
set_option linter.unusedSimpArgs false

attribute [local go_sem high] eqA50
mutual
def bottom_Right.j0 : Nat → Bool → Int → Int → Int → List (S62) → Option (Bool)
 | 0, _, _, _, _, _ => none
 | k + 1, x21, x171000, x171001, x171002, x171003 => if x21 = true then (some false) else (bottom_Right.l0 k x171003 (x171003.length : Int) 0 x171000 x171001 x171002 x171003)
def bottom_Right.l0 : Nat → List (S62) → Int → Int → Int → Int → Int → List (S62) → Option (Bool)
 | 0, _, _, _, _, _, _, _ => none
 | k + 1, x23, x24, x25, x171000, x171001, x171002, x171003 => if x25 < x24 then (if 0 ≤ x25 then (if x25 < (x23.length : Int) then (if (((rd_T62 x23 x25).f0).size : Int) > 64 then (some false) else ((sip_Sum.f k x171000 x171001 ((rd_T62 x23 x25).f0)).bind fun t173 => (if ((rd_T62 x23 x25).f1) = t173 then (if (((rd_T62 x23 x25).f2.f0) == 0 && (((rd_T62 x23 x25).f2.f1) == 0)) = true then (some false) else (if x25 > 0 then (if 0 ≤ (wrap64 (x25 - 1)) then (if (wrap64 (x25 - 1)) < (x171003.length : Int) then ((bottom_compare.f k ((rd_T62 x171003 (wrap64 (x25 - 1))).f0) ((rd_T62 x171003 (wrap64 (x25 - 1))).f1) ((rd_T62 x171003 (wrap64 (x25 - 1))).f2.f0) ((rd_T62 x171003 (wrap64 (x25 - 1))).f2.f1) ((rd_T62 x23 x25).f0) ((rd_T62 x23 x25).f1) ((rd_T62 x23 x25).f2.f0) ((rd_T62 x23 x25).f2.f1)).bind fun t175 => (if t175 ≥ 0 then (some false) else (bottom_Right.l0 k x23 x24 (wrap64 (x25 + 1)) x171000 x171001 x171002 x171003))) else (none)) else (none)) else (bottom_Right.l0 k x23 x24 (wrap64 (x25 + 1)) x171000 x171001 x171002 x171003))) else (some false)))) else (none)) else (none)) else (some true)
end
def bottom_Right.f (k : Nat) (a0_0 : Int) (a0_1 : Int) (a0_2 : Int) (l0_3 : List (S62)) : Option (Bool) := if a0_2 < 1 then (bottom_Right.j0 k true a0_0 a0_1 a0_2 l0_3) else (if a0_2 > 1024 then (bottom_Right.j0 k true a0_0 a0_1 a0_2 l0_3) else (bottom_Right.j0 k (decide ((l0_3.length : Int) > (wrap64 (a0_2 + 1)))) a0_0 a0_1 a0_2 l0_3))
theorem bottom_Right.mono_l : ∀ k, (∀ y0 y1 y2 y3 y4, LeO (bottom_Right.j0 k y0 y1 y2 y3 y4) (bottom_Right.j0 (k + 1) y0 y1 y2 y3 y4)) ∧ (∀ y0 y1 y2 y3 y4 y5 y6, LeO (bottom_Right.l0 k y0 y1 y2 y3 y4 y5 y6) (bottom_Right.l0 (k + 1) y0 y1 y2 y3 y4 y5 y6))
 | 0 => ⟨fun _ _ _ _ _ r h => by simp [bottom_Right.j0] at h, fun _ _ _ _ _ _ _ r h => by simp [bottom_Right.l0] at h⟩
 | k + 1 => by
  obtain ⟨ih0, ih1⟩ := bottom_Right.mono_l k
  refine ⟨?_, ?_⟩
  ·intro y0 y1 y2 y3 y4
   unfold bottom_Right.j0
   repeat' first
   | (with_reducible exact ih0 _ _ _ _ _)
   | (with_reducible exact ih1 _ _ _ _ _ _ _)
   | (with_reducible exact bottom_compare.mono _ _ _ _ _ _ _ _ _)
   | (with_reducible exact sip_Sum.mono _ _ _ _)
   | (with_reducible exact LeO.refl _)
   | (with_reducible exact LeO.none _)
   | (with_reducible refine LeO.ite ?_ ?_)
   | (with_reducible refine LeO.bind ?_ (fun _ => ?_))
  ·intro y0 y1 y2 y3 y4 y5 y6
   unfold bottom_Right.l0
   repeat' first
   | (with_reducible exact ih0 _ _ _ _ _)
   | (with_reducible exact ih1 _ _ _ _ _ _ _)
   | (with_reducible exact bottom_compare.mono _ _ _ _ _ _ _ _ _)
   | (with_reducible exact sip_Sum.mono _ _ _ _)
   | (with_reducible exact LeO.refl _)
   | (with_reducible exact LeO.none _)
   | (with_reducible refine LeO.ite ?_ ?_)
   | (with_reducible refine LeO.bind ?_ (fun _ => ?_))
theorem bottom_Right.mono : ∀ a0 a1 a2 a3 k, LeO (bottom_Right.f k a0 a1 a2 a3) (bottom_Right.f (k + 1) a0 a1 a2 a3) := by
 intro a0 a1 a2 a3 k
 obtain ⟨ih0, ih1⟩ := bottom_Right.mono_l k
 unfold bottom_Right.f
 repeat' first
   | (with_reducible exact ih0 _ _ _ _ _)
   | (with_reducible exact ih1 _ _ _ _ _ _ _)
   | (with_reducible exact bottom_compare.mono _ _ _ _ _ _ _ _ _)
   | (with_reducible exact sip_Sum.mono _ _ _ _)
   | (with_reducible exact LeO.refl _)
   | (with_reducible exact LeO.none _)
   | (with_reducible refine LeO.ite ?_ ?_)
   | (with_reducible refine LeO.bind ?_ (fun _ => ?_))
def bottom_Right.T6 : Bool × List (List Nat × List Nat) := (true, [([], []), ([0], [0]), ([1], [1]), ([2], [2]), ([3], [3]), ([4], [4]), ([5, 4], [4, 5]), ([4], [4]), ([7, 4], [4, 7]), ([4], [4]), ([9, 4], [4, 9]), ([8, 10, 4, 4], [4, 8, 10]), ([6, 11, 4], [4, 6, 11]), ([4, 12], [4, 12]), ([13, 11], [13]), ([14], [14]), ([15, 14], [14, 15]), ([14], [14]), ([16, 17, 14], [14, 16, 17]), ([14, 18], [14, 18]), ([19, 14], [19]), ([20], [20]), ([21, 20], [20, 21]), ([22, 20, 20], [20, 22]), ([23], [23]), ([24, 23], [23, 24]), ([23], [23]), ([26, 23], [23, 26]), ([25, 27, 23], [23, 25, 27]), ([28, 23], [23, 28]), ([23], [23]), ([29, 30, 23, 23], [23, 29, 30]), ([31, 23], [23, 31]), ([23, 32, 20], [20, 23, 32]), ([20, 33], [20, 33])])
def bottom_Right.B6 : List Nat := [0, 1, 3, 7, 15, 31, 63, 31, 159, 31, 543, 1951, 4095, 8191, 16383, 32767, 65535, 32767, 262143, 524287, 1048575, 2097151, 4194303, 8388607, 16777215, 33554431, 16777215, 83886079, 268435455, 536870911, 16777215, 2147483647, 4294967295, 8589934591, 17179869183]
theorem bottom_Right.tab6 : rtab .any (opsOf Try.f21 6) = bottom_Right.T6 := by kernel_rfl
theorem bottom_Right.bits6 : waitsOk bottom_Right.T6.2 bottom_Right.B6 = true := by kernel_rfl
set_option maxHeartbeats 8000000 in
set_option maxRecDepth 100000 in
theorem bottom_Right.calls (k : Nat) (aq : Int) (ar : Int) (au : Int) (aS : Option Addr) (aF : Nat) (ac : List (S62)) (r : Bool) (w : World) (br : Kd.C k62 w aS ac.length ac) (bs : ac.length ≤ aF) (h : bottom_Right.f k aq ar au ac = some r) :
  Calls Try.prog 21 #[.agg #[.int .u64 aq, .int .u64 ar, .int .i64 au, .slice aS ac.length aF]] w fun e w' => e = .returned (.bool r) ∧ Below w.heap.size w w' := by
 have hu27 := Try.underlying27;have hu62 := Try.underlying62;have hu24 := Try.underlying24;have hu50 := Try.underlying50;have aI := am br;have c0 := am bs;clear br bs;have HB := am (Below.refl w.heap.size w);have H : (if au < 1 then (bottom_Right.j0 k true aq ar au ac) else (if au > 1024 then (bottom_Right.j0 k true aq ar au ac) else (bottom_Right.j0 k (decide ((ac.length : Int) > (wrap64 (au + 1)))) aq ar au ac))) = some r := h;clear h;have bP := am H;clear H
 go_enter Try.func21, Try.ntmps21
 go_upto_region 1 with (first | ((with_reducible refine gate_dst (N := 1) rfl ?_); (try (refine gate_guard (by rfl) ?_; dsimp only)); refine be 1 #[.int .u64 aq, .int .u64 ar, .int .i64 au, .slice aS ac.length aF] 27 ?_; intro ap hg w3 hbox hb; have ae := am (hbox); have c1 := gq hg HB; have c_ := gq hg HB; replace HB := lb HB hb; clear hb hbox hg))
 (try simp only [Act.put, List.setIfInBounds_toArray, List.set_cons_zero, List.set_cons_succ])
 go_cut [21] (fun cS wc => ∃ (kq : Nat) (aR : Bool), cS = .bool aR ∧ Aside0 (bottom_Right.j0 kq aR aq ar au ac = some r) ∧ Aside0 (kq ≤ k) ∧ Aside0 (wc.heap[ap]? = some (.cells #[.int .u64 aq, .int .u64 ar, .int .i64 au, (.slice aS ac.length aF)] 27 (0, 0))) ∧ Aside0 (Below w.heap.size w wc))
 case first =>
  have H := bP.out;clear bP
  by_cases c4 : au < 1
  ·rw [if_pos c4] at H;have aL : decide (au < 1) = true := decide_eq_true c4;clear c4
   (first | rw [aL] | (simp only [i64_w, i32_w]; rw [aL]) | skip)
   have H' := am H;clear H;obtain ⟨a0, a1, a2, a3, a4, a5, a6, a7⟩ := g4 ae
   go_wp2
   go_meet
   case rel => exact ⟨_, (true), (by first | rfl | (simp; done) | (simp [*]; done)), H', ⟨by first | omega | exact Nat.le_refl _⟩, ⟨pk ae.out⟩, ⟨pb HB⟩⟩
  ·rw [if_neg c4] at H;have aL : decide (au < 1) = false := decide_eq_false c4;clear c4
   (first | rw [aL] | (simp only [i64_w, i32_w]; rw [aL]) | skip)
   by_cases c6 : au > 1024
   ·rw [if_pos c6] at H;have bp : decide (1024 < au) = true := decide_eq_true c6;clear c6;have H' := am H;clear H;obtain ⟨a8, a9, a_, ba, bb, bc, bd, bg⟩ := g4 ae
    go_wp2
    go_meet
    case rel => exact ⟨_, (true), (by first | rfl | (simp; done) | (simp [*]; done)), H', ⟨by first | omega | exact Nat.le_refl _⟩, ⟨pk ae.out⟩, ⟨pb HB⟩⟩
   ·rw [if_neg c6] at H;have bp : decide (1024 < au) = false := decide_eq_false c6;clear c6;have H' := am H;clear H;obtain ⟨bh, bi, bj, bk, bl, bm, bn, bo⟩ := g4 ae
    go_wp2
    go_meet
    case rel => exact ⟨_, (decide ((ac.length : Int) > (wrap64 (au + 1)))), (by first | rfl | (simp; done) | (simp [*]; done)), H', ⟨by first | omega | exact Nat.le_refl _⟩, ⟨pk ae.out⟩, ⟨pb HB⟩⟩
 case rest =>
  clear bP;(try clear c2);(try clear p2);(try clear c4);(try clear aL);(try clear c6);(try clear bp);(try clear p6);(try clear a0 a1 a2 a3);(try clear a8 a9 a_ ba);(try clear bh bi bj bk);(try clear a4 a5 a6 a7);(try clear bb bc bd bg);(try clear bl bm bn bo);obtain ⟨kq, aR, rfl, HA, bu, ae, HB⟩ := hcut
  cases kq with
  | zero => exact absurd HA.out (by simp [bottom_Right.j0])
  | succ bQ =>
   have H := HA.out;clear HA
   simp only [bottom_Right.j0] at H
   by_cases c9 : aR = true
   ·subst c9
    have H1 : (some false) = some r := by rw [if_pos rfl] at H; exact H
    clear H;have H := H1;clear H1;obtain rfl := Option.some.inj H
    go_wp2
    go_ret
    exact ⟨by first | rfl | (simp [errW_none, errW_some] <;> rfl) | (simp [*, errW_none, errW_some] <;> rfl), pb HB⟩
   ·replace c9 := Bool.eq_false_iff.mpr c9;subst c9
    have H1 : (bottom_Right.l0 bQ ac (ac.length : Int) 0 aq ar au ac) = some r := by rw [if_neg (show ¬ (false = true) by decide)] at H; exact H
    clear H;have H := H1;clear H1;have H' := am H;clear H;obtain ⟨bH, bI, bJ, bK, bL, bM, bN, bO⟩ := g4 ae
    go_wp2
    go_loopg [25] bQ (fun kq cT w' => ∃ (aa : Int), cT = .int .i64 aa ∧ Aside0 (bottom_Right.l0 kq ac (ac.length : Int) aa aq ar au ac = some r) ∧ Aside0 (kq ≤ bQ) ∧ Aside0 (w'.heap[ap]? = some (.cells #[.int .u64 aq, .int .u64 ar, .int .i64 au, (.slice aS ac.length aF)] 27 (0, 0))) ∧ Aside0 (Below w.heap.size w w'))
    case atStart => exact ⟨(0), (by first | rfl | (simp; done) | (simp [*]; done)), H', ⟨Nat.le_refl _⟩, ⟨pk ae.out⟩, ⟨pb HB⟩⟩
    case round =>
     clear H';(try clear c2);(try clear p2);(try clear c4);(try clear aL);(try clear c6);(try clear bp);(try clear p6);(try clear c9);(try clear bH bI bJ bK);(try clear a0 a1 a2 a3);(try clear a8 a9 a_ ba);(try clear bh bi bj bk);(try clear bL bM bN bO);(try clear a4 a5 a6 a7);(try clear bb bc bd bg);(try clear bl bm bn bo);(try clear p2);(try clear p6);obtain ⟨aa, rfl, HA, HK2, ae, HB⟩ := hrel
     cases gk with
     | zero => exact absurd HA.out (by simp [bottom_Right.l0])
     | succ k2 =>
      have H := HA.out;clear HA
      simp only [bottom_Right.l0] at H
      by_cases aU : aa < (ac.length : Int)
      ·rw [if_pos aU] at H;have bT : decide (aa < (ac.length : Int)) = true := decide_eq_true aU;clear aU
       by_cases bv : 0 ≤ aa
       ·rw [if_pos bv] at H;have da : decide (0 ≤ aa) = true := decide_eq_true bv;clear bv
        by_cases bw : aa < (ac.length : Int)
        ·rw [if_pos bw] at H;have db : decide (aa < (ac.length : Int)) = true := decide_eq_true bw;clear bw
         by_cases aV : (((rd_T62 ac aa).f0).size : Int) > 64
         ·rw [if_pos aV] at H;have bU : decide (64 < (((rd_T62 ac aa).f0).size : Int)) = true := decide_eq_true aV;have bV : decide (64 < ((rd_T62 ac aa).f0).size) = true := decide_eq_true (by omega);clear aV;obtain rfl := Option.some.inj H;have az : 0 ≤ (aa : Int) := of_decide_eq_true (by first | (with_reducible assumption) | assumption);have aA : aa < (ac.length : Int) := of_decide_eq_true (by first | (with_reducible assumption) | assumption);obtain ⟨ao, aH, ai, aj, ak, an⟩ := at_T62 aI.out aa az aA;cases aH;replace ai := (HB.out.cell (World.block_lt_of_cell? w _ ai)).trans ai;replace aj := (HB.out.cell (World.block_lt_of_cell? w _ aj)).trans aj;replace ak := (HB.out.cell (World.block_lt_of_cell? w _ ak)).trans ak;replace an := (HB.out.cell (World.block_lt_of_cell? w _ an)).trans an;replace az := eq_true az;replace aA := eq_true aA
          try go_wp2_with (first | ((with_reducible refine gate_dst (N := 4) rfl ?_); (try (refine gate_guard (by rfl) ?_; dsimp only)); refine be 4 #[.string (⟨#[]⟩ : ByteArray), .int .u64 0, .int .u64 0, .int .u64 0] 62 ?_; intro ad hg bz hbox hb; have af := am (hbox); have aP := gq hg HB; have aQ := gq hg HB; replace HB := lb HB hb; obtain ⟨ag, aG, dc, dd⟩ := pm hg ae; replace ae := kb ae hb; clear hb hbox hg; obtain ⟨b4, b5, b6, b7, b8, b9, b_, ca⟩ := g4 af))
          have n0_ : Aside0 (((((bz.setCell ⟨ad, 0, none⟩ (.string ((rd_T62 ac aa).f0))).setCell ⟨ad, 1, none⟩ (.int .u64 ((rd_T62 ac aa).f1))).setCell ⟨ad, 2, none⟩ (.int .u64 ((rd_T62 ac aa).f2.f0))).setCell ⟨ad, 3, none⟩ (.int .u64 ((rd_T62 ac aa).f2.f1))).heap[ap]? = some (.cells #[.int .u64 aq, .int .u64 ar, .int .i64 au, .slice (some ao) ac.length aF] 27 (0, 0))) := ⟨by refine pk ?_; refine blk_far ?_ ag.out _; refine pk ?_; refine blk_far ?_ ag.out _; refine pk ?_; refine blk_far ?_ ag.out _; refine pk ?_; refine blk_far ?_ ag.out _; refine pk ?_; exact ae.out⟩;have n1_ : Aside0 (((((bz.setCell ⟨ad, 0, none⟩ (.string ((rd_T62 ac aa).f0))).setCell ⟨ad, 1, none⟩ (.int .u64 ((rd_T62 ac aa).f1))).setCell ⟨ad, 2, none⟩ (.int .u64 ((rd_T62 ac aa).f2.f0))).setCell ⟨ad, 3, none⟩ (.int .u64 ((rd_T62 ac aa).f2.f1))).heap[ad]? = some (.cells #[.string ((rd_T62 ac aa).f0), .int .u64 ((rd_T62 ac aa).f1), .int .u64 ((rd_T62 ac aa).f2.f0), .int .u64 ((rd_T62 ac aa).f2.f1)] 62 (0, 0))) := ⟨by refine pk ?_; refine blk_put (cs := #[.string ((rd_T62 ac aa).f0), .int .u64 ((rd_T62 ac aa).f1), .int .u64 ((rd_T62 ac aa).f2.f0), .int .u64 0]) ?_ 3 _ rfl; refine pk ?_; refine blk_put (cs := #[.string ((rd_T62 ac aa).f0), .int .u64 ((rd_T62 ac aa).f1), .int .u64 0, .int .u64 0]) ?_ 2 _ rfl; refine pk ?_; refine blk_put (cs := #[.string ((rd_T62 ac aa).f0), .int .u64 0, .int .u64 0, .int .u64 0]) ?_ 1 _ rfl; refine pk ?_; refine blk_put (cs := #[.string (⟨#[]⟩ : ByteArray), .int .u64 0, .int .u64 0, .int .u64 0]) ?_ 0 _ rfl; refine pk ?_; exact af.out⟩;have n2_ : Aside0 (Below w.heap.size w ((((bz.setCell ⟨ad, 0, none⟩ (.string ((rd_T62 ac aa).f0))).setCell ⟨ad, 1, none⟩ (.int .u64 ((rd_T62 ac aa).f1))).setCell ⟨ad, 2, none⟩ (.int .u64 ((rd_T62 ac aa).f2.f0))).setCell ⟨ad, 3, none⟩ (.int .u64 ((rd_T62 ac aa).f2.f1)))) := ⟨pb HB⟩
          (try clear ae)
          (try clear af)
          (try clear HB)
          generalize ((((bz.setCell ⟨ad, 0, none⟩ (.string ((rd_T62 ac aa).f0))).setCell ⟨ad, 1, none⟩ (.int .u64 ((rd_T62 ac aa).f1))).setCell ⟨ad, 2, none⟩ (.int .u64 ((rd_T62 ac aa).f2.f0))).setCell ⟨ad, 3, none⟩ (.int .u64 ((rd_T62 ac aa).f2.f1))) = cU at n0_ n1_ n2_ ⊢
          have ae := n0_;have af := n1_;have HB := n2_;clear n0_ n1_ n2_;replace ae := am (blk_drew ae.out);replace af := am (blk_drew af.out);replace HB := am (below_drew1 HB.out)
          refine start_ (n := 35) (S := fun w' => w'.cell? ⟨ad, 0, none⟩ = some (.string ((rd_T62 ac aa).f0)) ∧ w'.cell? ⟨ad, 1, none⟩ = some (.int .u64 ((rd_T62 ac aa).f1)) ∧ w'.cell? ⟨ad, 2, none⟩ = some (.int .u64 ((rd_T62 ac aa).f2.f0)) ∧ w'.cell? ⟨ad, 3, none⟩ = some (.int .u64 ((rd_T62 ac aa).f2.f1))) (ds := []) #[false, false, false, false, false, false, false, false, false, false, false, false, false, false, false, false, false, false, false, false, false, false, false, false, false, false, false, false, false, false, false, false, false, false, false] (by kernel_rfl) rfl rfl ⟨ce af 0, ce af 1, ce af 2, ce af 3⟩ (fun hHeld => ?_); refine with_tabW bottom_Right.tab6 bottom_Right.bits6 (fun HT_ HW_ => ?_)
          generalize cU.drew = dt at ae af HB hHeld ⊢
          refine pu 0 ?_
          refine ta 1 hHeld ?_
          refine pu 2 ?_
          refine pu 3 ?_
          refine pu 4 ?_
          refine po 5 ?_
          refine po 6 ?_
          refine po 7 ?_
          refine po 8 ?_
          refine po 9 ?_
          refine po 10 ?_
          refine po 11 ?_
          refine po 12 ?_
          refine pu 13 ?_
          refine pu 14 ?_
          refine po 15 ?_
          refine po 16 ?_
          refine po 17 ?_
          refine po 18 ?_
          refine pu 19 ?_
          refine pu 20 ?_
          refine po 21 ?_
          refine po 22 ?_
          refine po 23 ?_
          refine po 24 ?_
          refine po 25 ?_
          refine po 26 ?_
          refine po 27 ?_
          refine po 28 ?_
          refine po 29 ?_
          refine po 30 ?_
          refine po 31 ?_
          refine po 32 ?_
          refine po 33 ?_
          refine pu 34 ?_
          refine done_ (done_of HT_.out (by kernel_rfl)) ?_
          try go_wp2
          go_ret
          exact ⟨by first | rfl | (simp [errW_none, errW_some] <;> rfl) | (simp [*, errW_none, errW_some] <;> rfl), pb HB⟩
         ·rw [if_neg aV] at H;have bU : decide (64 < (((rd_T62 ac aa).f0).size : Int)) = false := decide_eq_false aV;have bV : decide (64 < ((rd_T62 ac aa).f0).size) = false := decide_eq_false (by omega);clear aV;replace H := Option.bind_eq_some_iff.mp H;obtain ⟨aJ, bR, H⟩ := H
          try dsimp only at H
          have aW := am bR;clear bR
          by_cases aT : ((rd_T62 ac aa).f1) = aJ
          ·rw [if_pos aT] at H;have bW : (((rd_T62 ac aa).f1) == aJ) = true := beq_iff_eq.mpr aT;have bX : (((rd_T62 ac aa).f1) != aJ) = false := bne_eq_false_iff_eq.mpr aT;clear aT
           by_cases aK : (((rd_T62 ac aa).f2.f0) == 0 && (((rd_T62 ac aa).f2.f1) == 0)) = true
           ·rw [if_pos aK] at H;have bY : (((rd_T62 ac aa).f2.f0) == 0 && (((rd_T62 ac aa).f2.f1) == 0)) = true := aK
            (try (have bZ : decide (((rd_T62 ac aa).f2.f0) = 0 && (((rd_T62 ac aa).f2.f1) == 0)) = true := by simpa using aK))
            (try (have b0 : (((rd_T62 ac aa).f2.f0) == 0 && (((rd_T62 ac aa).f2.f1) == 0)) = true := by simpa using aK))
            clear aK;obtain rfl := Option.some.inj H;have az : 0 ≤ (aa : Int) := of_decide_eq_true (by first | (with_reducible assumption) | assumption);have aA : aa < (ac.length : Int) := of_decide_eq_true (by first | (with_reducible assumption) | assumption);obtain ⟨ao, aH, ai, aj, ak, an⟩ := at_T62 aI.out aa az aA;cases aH;replace ai := (HB.out.cell (World.block_lt_of_cell? w _ ai)).trans ai;replace aj := (HB.out.cell (World.block_lt_of_cell? w _ aj)).trans aj;replace ak := (HB.out.cell (World.block_lt_of_cell? w _ ak)).trans ak;replace an := (HB.out.cell (World.block_lt_of_cell? w _ an)).trans an;replace az := eq_true az;replace aA := eq_true aA
            try go_wp2_with (first | ((with_reducible refine gate_dst (N := 4) rfl ?_); (try (refine gate_guard (by rfl) ?_; dsimp only)); refine be 4 #[.string (⟨#[]⟩ : ByteArray), .int .u64 0, .int .u64 0, .int .u64 0] 62 ?_; intro ad hg bA hbox hb; have af := am (hbox); have aP := gq hg HB; have aQ := gq hg HB; replace HB := lb HB hb; obtain ⟨ag, aG, de, df⟩ := pm hg ae; replace ae := kb ae hb; clear hb hbox hg; obtain ⟨cb, cc, cd, cf, cg, ch, ci, cj⟩ := g4 af))
            have n0_ : Aside0 (((((bA.setCell ⟨ad, 0, none⟩ (.string ((rd_T62 ac aa).f0))).setCell ⟨ad, 1, none⟩ (.int .u64 ((rd_T62 ac aa).f1))).setCell ⟨ad, 2, none⟩ (.int .u64 ((rd_T62 ac aa).f2.f0))).setCell ⟨ad, 3, none⟩ (.int .u64 ((rd_T62 ac aa).f2.f1))).heap[ap]? = some (.cells #[.int .u64 aq, .int .u64 ar, .int .i64 au, .slice (some ao) ac.length aF] 27 (0, 0))) := ⟨by refine pk ?_; refine blk_far ?_ ag.out _; refine pk ?_; refine blk_far ?_ ag.out _; refine pk ?_; refine blk_far ?_ ag.out _; refine pk ?_; refine blk_far ?_ ag.out _; refine pk ?_; exact ae.out⟩;have n1_ : Aside0 (((((bA.setCell ⟨ad, 0, none⟩ (.string ((rd_T62 ac aa).f0))).setCell ⟨ad, 1, none⟩ (.int .u64 ((rd_T62 ac aa).f1))).setCell ⟨ad, 2, none⟩ (.int .u64 ((rd_T62 ac aa).f2.f0))).setCell ⟨ad, 3, none⟩ (.int .u64 ((rd_T62 ac aa).f2.f1))).heap[ad]? = some (.cells #[.string ((rd_T62 ac aa).f0), .int .u64 ((rd_T62 ac aa).f1), .int .u64 ((rd_T62 ac aa).f2.f0), .int .u64 ((rd_T62 ac aa).f2.f1)] 62 (0, 0))) := ⟨by refine pk ?_; refine blk_put (cs := #[.string ((rd_T62 ac aa).f0), .int .u64 ((rd_T62 ac aa).f1), .int .u64 ((rd_T62 ac aa).f2.f0), .int .u64 0]) ?_ 3 _ rfl; refine pk ?_; refine blk_put (cs := #[.string ((rd_T62 ac aa).f0), .int .u64 ((rd_T62 ac aa).f1), .int .u64 0, .int .u64 0]) ?_ 2 _ rfl; refine pk ?_; refine blk_put (cs := #[.string ((rd_T62 ac aa).f0), .int .u64 0, .int .u64 0, .int .u64 0]) ?_ 1 _ rfl; refine pk ?_; refine blk_put (cs := #[.string (⟨#[]⟩ : ByteArray), .int .u64 0, .int .u64 0, .int .u64 0]) ?_ 0 _ rfl; refine pk ?_; exact af.out⟩;have n2_ : Aside0 (Below w.heap.size w ((((bA.setCell ⟨ad, 0, none⟩ (.string ((rd_T62 ac aa).f0))).setCell ⟨ad, 1, none⟩ (.int .u64 ((rd_T62 ac aa).f1))).setCell ⟨ad, 2, none⟩ (.int .u64 ((rd_T62 ac aa).f2.f0))).setCell ⟨ad, 3, none⟩ (.int .u64 ((rd_T62 ac aa).f2.f1)))) := ⟨pb HB⟩
            (try clear ae)
            (try clear af)
            (try clear HB)
            generalize ((((bA.setCell ⟨ad, 0, none⟩ (.string ((rd_T62 ac aa).f0))).setCell ⟨ad, 1, none⟩ (.int .u64 ((rd_T62 ac aa).f1))).setCell ⟨ad, 2, none⟩ (.int .u64 ((rd_T62 ac aa).f2.f0))).setCell ⟨ad, 3, none⟩ (.int .u64 ((rd_T62 ac aa).f2.f1))) = cV at n0_ n1_ n2_ ⊢
            have ae := n0_;have af := n1_;have HB := n2_;clear n0_ n1_ n2_;replace ae := am (blk_drew ae.out);replace af := am (blk_drew af.out);replace HB := am (below_drew1 HB.out)
            refine start_ (n := 35) (S := fun w' => w'.cell? ⟨ad, 0, none⟩ = some (.string ((rd_T62 ac aa).f0)) ∧ w'.cell? ⟨ad, 1, none⟩ = some (.int .u64 ((rd_T62 ac aa).f1)) ∧ w'.cell? ⟨ad, 2, none⟩ = some (.int .u64 ((rd_T62 ac aa).f2.f0)) ∧ w'.cell? ⟨ad, 3, none⟩ = some (.int .u64 ((rd_T62 ac aa).f2.f1)) ∧ w'.cell? ⟨ap, 0, none⟩ = some (.int .u64 aq) ∧ w'.cell? ⟨ap, 1, none⟩ = some (.int .u64 ar) ∧ w'.cell? ⟨ap, 2, none⟩ = some (.int .i64 au) ∧ w'.cell? ⟨ap, 3, none⟩ = some (.slice (some ao) ac.length aF)) (ds := []) #[false, false, false, false, false, false, false, false, false, false, false, false, false, false, false, false, false, false, false, false, false, false, false, false, false, false, false, false, false, false, false, false, false, false, false] (by kernel_rfl) rfl rfl ⟨ce af 0, ce af 1, ce af 2, ce af 3, ce ae 0, ce ae 1, ce ae 2, ce ae 3⟩ (fun hHeld => ?_); refine with_tabW bottom_Right.tab6 bottom_Right.bits6 (fun HT_ HW_ => ?_)
            generalize cV.drew = du at ae af HB hHeld ⊢
            refine pu 0 ?_
            refine ta 1 hHeld ?_
            refine pu 2 ?_
            refine pu 3 ?_
            refine pu 4 ?_
            refine pu 5 ?_
            refine pu 7 ?_
            refine pu 9 ?_
            refine ta 6 hHeld ?_
            refine ta 8 hHeld ?_
            refine ta 10 hHeld ?_
            refine on1 11 (fun K hK => ?_)
            refine gs Try.func30 #[.agg #[.int .u64 aq, .int .u64 ar], .string ((rd_T62 ac aa).f0)] ?_
            with_reducible refine (sip_Sum.calls k2 aq ar ((rd_T62 ac aa).f0) aJ _ aW.out).mono ?_
            rintro e dv ⟨rfl, hb⟩
            refine ⟨_, rfl, ?_⟩
            replace ae := kb ae hb;replace af := kb af hb;replace HB := lb HB hb
            (try clear hb)
            (try clear hb2)
            (try clear hk)
            (try clear hi)
            refine hK.out _ _ ⟨ce af 0, ce af 1, ce af 2, ce af 3, ce ae 0, ce ae 1, ce ae 2, ce ae 3⟩ (fun hHeld => ?_)
            clear hK K
            refine nm ?_
            refine pu 12 ?_
            refine pu 13 ?_
            refine pu 14 ?_
            refine pu 15 ?_
            refine pu 17 ?_
            refine ta 16 hHeld ?_
            refine pu 18 ?_
            refine pu 19 ?_
            refine pu 20 ?_
            refine po 21 ?_
            refine po 22 ?_
            refine po 23 ?_
            refine po 24 ?_
            refine po 25 ?_
            refine po 26 ?_
            refine po 27 ?_
            refine po 28 ?_
            refine po 29 ?_
            refine po 30 ?_
            refine po 31 ?_
            refine po 32 ?_
            refine po 33 ?_
            refine pu 34 ?_
            refine done_ (done_of HT_.out (by kernel_rfl)) ?_
            try go_wp2
            go_ret
            exact ⟨by first | rfl | (simp [errW_none, errW_some] <;> rfl) | (simp [*, errW_none, errW_some] <;> rfl), pb HB⟩
           ·rw [if_neg aK] at H
            have bY : (((rd_T62 ac aa).f2.f0) == 0 && (((rd_T62 ac aa).f2.f1) == 0)) = false := by simpa using aK
            (try (have bZ : decide (((rd_T62 ac aa).f2.f0) = 0 && (((rd_T62 ac aa).f2.f1) == 0)) = false := by simpa using aK))
            (try (have b0 : (((rd_T62 ac aa).f2.f0) == 0 && (((rd_T62 ac aa).f2.f1) == 0)) = false := by simpa using aK))
            (try (have dg : ¬ (((rd_T62 ac aa).f2.f0) = 0 && (((rd_T62 ac aa).f2.f1) == 0)) := by simpa using aK))
            clear aK
            by_cases aX : aa > 0
            ·rw [if_pos aX] at H;have b1 : decide (0 < aa) = true := decide_eq_true aX;clear aX;obtain ⟨ah, hji30⟩ : ∃ j_ : Int, (wrap64 (aa - 1)) = j_ := ⟨_, rfl⟩
             replace H : (if 0 ≤ (ah) then (if (ah) < (ac.length : Int) then ((bottom_compare.f k2 ((rd_T62 ac (ah)).f0) ((rd_T62 ac (ah)).f1) ((rd_T62 ac (ah)).f2.f0) ((rd_T62 ac (ah)).f2.f1) ((rd_T62 ac aa).f0) ((rd_T62 ac aa).f1) ((rd_T62 ac aa).f2.f0) ((rd_T62 ac aa).f2.f1)).bind fun aM => (if aM ≥ 0 then (some false) else (bottom_Right.l0 k2 ac (ac.length : Int) (wrap64 (aa + 1)) aq ar au ac))) else (none)) else (none)) = some r := by first | (rw [hji30] at H; exact H) | (simp only [hji30] at H ⊢; exact H)
             (try rw [hji30] at aW)
             have hji30w : (IntKind.i64.wrap (aa - 1)) = ah := (i64_w _).trans hji30
             by_cases bB : 0 ≤ (ah)
             ·rw [if_pos bB] at H;have dh : decide (0 ≤ (ah)) = true := decide_eq_true bB;clear bB
              by_cases bC : (ah) < (ac.length : Int)
              ·rw [if_pos bC] at H;have di : decide ((ah) < (ac.length : Int)) = true := decide_eq_true bC;clear bC;replace H := Option.bind_eq_some_iff.mp H;obtain ⟨aM, bS, H⟩ := H
               try dsimp only at H
               have b3 := am bS;clear bS
               by_cases aY : aM ≥ 0
               ·rw [if_pos aY] at H;have b2 : decide (0 ≤ aM) = true := decide_eq_true aY;clear aY;obtain rfl := Option.some.inj H;have az : 0 ≤ (aa : Int) := of_decide_eq_true (by first | (with_reducible assumption) | assumption);have aA : aa < (ac.length : Int) := of_decide_eq_true (by first | (with_reducible assumption) | assumption);obtain ⟨ao, aH, ai, aj, ak, an⟩ := at_T62 aI.out aa az aA;cases aH;replace ai := (HB.out.cell (World.block_lt_of_cell? w _ ai)).trans ai;replace aj := (HB.out.cell (World.block_lt_of_cell? w _ aj)).trans aj;replace ak := (HB.out.cell (World.block_lt_of_cell? w _ ak)).trans ak;replace an := (HB.out.cell (World.block_lt_of_cell? w _ an)).trans an;replace az := eq_true az;replace aA := eq_true aA
                try go_wp2_with (first | ((with_reducible refine gate_dst (N := 4) rfl ?_); (try (refine gate_guard (by rfl) ?_; dsimp only)); refine be 4 #[.string (⟨#[]⟩ : ByteArray), .int .u64 0, .int .u64 0, .int .u64 0] 62 ?_; intro ad hg bD hbox hb; have af := am (hbox); have aP := gq hg HB; have aQ := gq hg HB; replace HB := lb HB hb; obtain ⟨ag, aG, dj, dk⟩ := pm hg ae; replace ae := kb ae hb; clear hb hbox hg; obtain ⟨ck, cl, cm, cn, cp, cq, cr, ct⟩ := g4 af))
                have n0_ : Aside0 (((((bD.setCell ⟨ad, 0, none⟩ (.string ((rd_T62 ac aa).f0))).setCell ⟨ad, 1, none⟩ (.int .u64 ((rd_T62 ac aa).f1))).setCell ⟨ad, 2, none⟩ (.int .u64 ((rd_T62 ac aa).f2.f0))).setCell ⟨ad, 3, none⟩ (.int .u64 ((rd_T62 ac aa).f2.f1))).heap[ap]? = some (.cells #[.int .u64 aq, .int .u64 ar, .int .i64 au, .slice (some ao) ac.length aF] 27 (0, 0))) := ⟨by refine pk ?_; refine blk_far ?_ ag.out _; refine pk ?_; refine blk_far ?_ ag.out _; refine pk ?_; refine blk_far ?_ ag.out _; refine pk ?_; refine blk_far ?_ ag.out _; refine pk ?_; exact ae.out⟩;have n1_ : Aside0 (((((bD.setCell ⟨ad, 0, none⟩ (.string ((rd_T62 ac aa).f0))).setCell ⟨ad, 1, none⟩ (.int .u64 ((rd_T62 ac aa).f1))).setCell ⟨ad, 2, none⟩ (.int .u64 ((rd_T62 ac aa).f2.f0))).setCell ⟨ad, 3, none⟩ (.int .u64 ((rd_T62 ac aa).f2.f1))).heap[ad]? = some (.cells #[.string ((rd_T62 ac aa).f0), .int .u64 ((rd_T62 ac aa).f1), .int .u64 ((rd_T62 ac aa).f2.f0), .int .u64 ((rd_T62 ac aa).f2.f1)] 62 (0, 0))) := ⟨by refine pk ?_; refine blk_put (cs := #[.string ((rd_T62 ac aa).f0), .int .u64 ((rd_T62 ac aa).f1), .int .u64 ((rd_T62 ac aa).f2.f0), .int .u64 0]) ?_ 3 _ rfl; refine pk ?_; refine blk_put (cs := #[.string ((rd_T62 ac aa).f0), .int .u64 ((rd_T62 ac aa).f1), .int .u64 0, .int .u64 0]) ?_ 2 _ rfl; refine pk ?_; refine blk_put (cs := #[.string ((rd_T62 ac aa).f0), .int .u64 0, .int .u64 0, .int .u64 0]) ?_ 1 _ rfl; refine pk ?_; refine blk_put (cs := #[.string (⟨#[]⟩ : ByteArray), .int .u64 0, .int .u64 0, .int .u64 0]) ?_ 0 _ rfl; refine pk ?_; exact af.out⟩;have n2_ : Aside0 (Below w.heap.size w ((((bD.setCell ⟨ad, 0, none⟩ (.string ((rd_T62 ac aa).f0))).setCell ⟨ad, 1, none⟩ (.int .u64 ((rd_T62 ac aa).f1))).setCell ⟨ad, 2, none⟩ (.int .u64 ((rd_T62 ac aa).f2.f0))).setCell ⟨ad, 3, none⟩ (.int .u64 ((rd_T62 ac aa).f2.f1)))) := ⟨pb HB⟩
                (try clear ae)
                (try clear af)
                (try clear HB)
                generalize ((((bD.setCell ⟨ad, 0, none⟩ (.string ((rd_T62 ac aa).f0))).setCell ⟨ad, 1, none⟩ (.int .u64 ((rd_T62 ac aa).f1))).setCell ⟨ad, 2, none⟩ (.int .u64 ((rd_T62 ac aa).f2.f0))).setCell ⟨ad, 3, none⟩ (.int .u64 ((rd_T62 ac aa).f2.f1))) = cW at n0_ n1_ n2_ ⊢
                have ae := n0_;have af := n1_;have HB := n2_;clear n0_ n1_ n2_;replace ae := am (blk_drew ae.out);replace af := am (blk_drew af.out);replace HB := am (below_drew1 HB.out);have aN : 0 ≤ ((ah) : Int) := of_decide_eq_true (by first | (with_reducible assumption) | assumption);have aO : (ah) < (ac.length : Int) := of_decide_eq_true (by first | (with_reducible assumption) | assumption);obtain ⟨aZ, bq, aB, aC, aD, aE⟩ := at_T62 aI.out (ah) aN aO;have av := aE;have aw := aD;have ax := aC;have ay := aB;obtain rfl : ao = aZ := (by injection bq);replace aB := (HB.out.cell (World.block_lt_of_cell? w _ aB)).trans aB;replace aC := (HB.out.cell (World.block_lt_of_cell? w _ aC)).trans aC;replace aD := (HB.out.cell (World.block_lt_of_cell? w _ aD)).trans aD;replace aE := (HB.out.cell (World.block_lt_of_cell? w _ aE)).trans aE;replace aN := eq_true aN;replace aO := eq_true aO
                refine start_ (n := 35) (S := fun w' => w'.cell? ⟨ad, 0, none⟩ = some (.string ((rd_T62 ac aa).f0)) ∧ w'.cell? ⟨ad, 1, none⟩ = some (.int .u64 ((rd_T62 ac aa).f1)) ∧ w'.cell? ⟨ad, 2, none⟩ = some (.int .u64 ((rd_T62 ac aa).f2.f0)) ∧ w'.cell? ⟨ad, 3, none⟩ = some (.int .u64 ((rd_T62 ac aa).f2.f1)) ∧ w'.cell? ⟨ap, 0, none⟩ = some (.int .u64 aq) ∧ w'.cell? ⟨ap, 1, none⟩ = some (.int .u64 ar) ∧ w'.cell? ⟨ap, 2, none⟩ = some (.int .i64 au) ∧ w'.cell? ⟨ap, 3, none⟩ = some (.slice (some ao) ac.length aF) ∧ w'.cell? (ao.add (((ah)).toNat * 4)) = some (.string ((rd_T62 ac (ah)).f0)) ∧ w'.cell? ⟨(ao.add (((ah)).toNat * 4)).block, (ao.add (((ah)).toNat * 4)).off + 1, none⟩ = some (.int .u64 ((rd_T62 ac (ah)).f1)) ∧ w'.cell? ⟨(ao.add (((ah)).toNat * 4)).block, (ao.add (((ah)).toNat * 4)).off + 2, none⟩ = some (.int .u64 ((rd_T62 ac (ah)).f2.f0)) ∧ w'.cell? ⟨(ao.add (((ah)).toNat * 4)).block, (ao.add (((ah)).toNat * 4)).off + 3, none⟩ = some (.int .u64 ((rd_T62 ac (ah)).f2.f1))) (ds := []) #[false, false, false, false, false, false, false, false, false, false, false, false, false, false, false, false, false, false, false, false, false, false, false, false, false, false, false, false, false, false, false, false, false, false, false] (by kernel_rfl) rfl rfl ⟨ce af 0, ce af 1, ce af 2, ce af 3, ce ae 0, ce ae 1, ce ae 2, ce ae 3, ((HB.out.cell (World.block_lt_of_cell? w _ ay)).trans ay), ((HB.out.cell (World.block_lt_of_cell? w _ ax)).trans ax), ((HB.out.cell (World.block_lt_of_cell? w _ aw)).trans aw), ((HB.out.cell (World.block_lt_of_cell? w _ av)).trans av)⟩ (fun hHeld => ?_); refine with_tabW bottom_Right.tab6 bottom_Right.bits6 (fun HT_ HW_ => ?_)
                generalize cW.drew = dw at ae af HB aB aC aD aE hHeld ⊢
                refine pu 0 ?_
                refine ta 1 hHeld ?_
                refine pu 2 ?_
                refine pu 3 ?_
                refine pu 4 ?_
                refine pu 5 ?_
                refine pu 7 ?_
                refine pu 9 ?_
                refine ta 6 hHeld ?_
                refine ta 8 hHeld ?_
                refine ta 10 hHeld ?_
                refine on1 11 (fun K hK => ?_)
                refine gs Try.func30 #[.agg #[.int .u64 aq, .int .u64 ar], .string ((rd_T62 ac aa).f0)] ?_
                with_reducible refine (sip_Sum.calls k2 aq ar ((rd_T62 ac aa).f0) aJ _ aW.out).mono ?_
                rintro e dx ⟨rfl, hb⟩
                refine ⟨_, rfl, ?_⟩
                replace ae := kb ae hb;replace af := kb af hb;replace HB := lb HB hb
                (try clear hb)
                (try clear hb2)
                (try clear hk)
                (try clear hi)
                refine hK.out _ _ ⟨ce af 0, ce af 1, ce af 2, ce af 3, ce ae 0, ce ae 1, ce ae 2, ce ae 3, ((HB.out.cell (World.block_lt_of_cell? w _ ay)).trans ay), ((HB.out.cell (World.block_lt_of_cell? w _ ax)).trans ax), ((HB.out.cell (World.block_lt_of_cell? w _ aw)).trans aw), ((HB.out.cell (World.block_lt_of_cell? w _ av)).trans av)⟩ (fun hHeld => ?_)
                clear hK K
                refine nm ?_
                refine pu 12 ?_
                refine pu 13 ?_
                refine pu 14 ?_
                refine pu 15 ?_
                refine pu 17 ?_
                refine ta 16 hHeld ?_
                refine pu 18 ?_
                refine pu 19 ?_
                refine pu 20 ?_
                refine pu 21 ?_
                refine pu 22 ?_
                refine pu 23 ?_
                refine pu 24 ?_
                refine pu 26 ?_
                refine pu 27 ?_
                refine ta 25 hHeld ?_
                refine pu 28 ?_
                refine ta 29 hHeld ?_
                refine ta 30 hHeld ?_
                refine on1 31 (fun K hK => ?_)
                refine goes_ Try.func33 (by kernel_rfl) rfl #[.agg #[.string ((rd_T62 ac (ah)).f0), .int .u64 ((rd_T62 ac (ah)).f1), .int .u64 ((rd_T62 ac (ah)).f2.f0), .int .u64 ((rd_T62 ac (ah)).f2.f1)], .agg #[.string ((rd_T62 ac aa).f0), .int .u64 ((rd_T62 ac aa).f1), .int .u64 ((rd_T62 ac aa).f2.f0), .int .u64 ((rd_T62 ac aa).f2.f1)]] (by rfl) rfl rfl (by (try simp only [List.map_toArray, List.map_cons, List.map_nil]); first | done | (simp only [hji30]; rfl) | rfl | (simp only [List.length_drop, List.length_take]; rfl)) ?_
                with_reducible refine (bottom_compare.calls k2 ((rd_T62 ac (ah)).f0) ((rd_T62 ac (ah)).f1) ((rd_T62 ac (ah)).f2.f0) ((rd_T62 ac (ah)).f2.f1) ((rd_T62 ac aa).f0) ((rd_T62 ac aa).f1) ((rd_T62 ac aa).f2.f0) ((rd_T62 ac aa).f2.f1) aM _ b3.out).mono ?_
                rintro e dy ⟨rfl, hb⟩
                refine ⟨_, rfl, ?_⟩
                replace ae := kb ae hb;replace af := kb af hb;replace HB := lb HB hb
                (try clear hb)
                (try clear hb2)
                (try clear hk)
                (try clear hi)
                refine hK.out _ _ ⟨ce af 0, ce af 1, ce af 2, ce af 3, ce ae 0, ce ae 1, ce ae 2, ce ae 3, ((HB.out.cell (World.block_lt_of_cell? w _ ay)).trans ay), ((HB.out.cell (World.block_lt_of_cell? w _ ax)).trans ax), ((HB.out.cell (World.block_lt_of_cell? w _ aw)).trans aw), ((HB.out.cell (World.block_lt_of_cell? w _ av)).trans av)⟩ (fun hHeld => ?_)
                clear hK K
                refine nm ?_
                refine pu 32 ?_
                refine pu 33 ?_
                refine pu 34 ?_
                refine done_ (done_of HT_.out (by kernel_rfl)) ?_
                try go_wp2
                go_ret
                exact ⟨by first | rfl | (simp [errW_none, errW_some] <;> rfl) | (simp only [← hji30]; first | rfl | (simp [errW_none, errW_some] <;> rfl)) | (simp [*, errW_none, errW_some] <;> rfl), pb HB⟩
               ·rw [if_neg aY] at H;have b2 : decide (0 ≤ aM) = false := decide_eq_false aY;clear aY;have H' := am H;clear H;have az : 0 ≤ (aa : Int) := of_decide_eq_true (by first | (with_reducible assumption) | assumption);have aA : aa < (ac.length : Int) := of_decide_eq_true (by first | (with_reducible assumption) | assumption);obtain ⟨ao, aH, ai, aj, ak, an⟩ := at_T62 aI.out aa az aA;cases aH;replace ai := (HB.out.cell (World.block_lt_of_cell? w _ ai)).trans ai;replace aj := (HB.out.cell (World.block_lt_of_cell? w _ aj)).trans aj;replace ak := (HB.out.cell (World.block_lt_of_cell? w _ ak)).trans ak;replace an := (HB.out.cell (World.block_lt_of_cell? w _ an)).trans an;replace az := eq_true az;replace aA := eq_true aA
                try go_wp2_with (first | ((with_reducible refine gate_dst (N := 4) rfl ?_); (try (refine gate_guard (by rfl) ?_; dsimp only)); refine be 4 #[.string (⟨#[]⟩ : ByteArray), .int .u64 0, .int .u64 0, .int .u64 0] 62 ?_; intro ad hg bE hbox hb; have af := am (hbox); have aP := gq hg HB; have aQ := gq hg HB; replace HB := lb HB hb; obtain ⟨ag, aG, dl, dm⟩ := pm hg ae; replace ae := kb ae hb; clear hb hbox hg; obtain ⟨cu, cv, cw, cx, cy, cz, cA, cB⟩ := g4 af))
                have n0_ : Aside0 (((((bE.setCell ⟨ad, 0, none⟩ (.string ((rd_T62 ac aa).f0))).setCell ⟨ad, 1, none⟩ (.int .u64 ((rd_T62 ac aa).f1))).setCell ⟨ad, 2, none⟩ (.int .u64 ((rd_T62 ac aa).f2.f0))).setCell ⟨ad, 3, none⟩ (.int .u64 ((rd_T62 ac aa).f2.f1))).heap[ap]? = some (.cells #[.int .u64 aq, .int .u64 ar, .int .i64 au, .slice (some ao) ac.length aF] 27 (0, 0))) := ⟨by refine pk ?_; refine blk_far ?_ ag.out _; refine pk ?_; refine blk_far ?_ ag.out _; refine pk ?_; refine blk_far ?_ ag.out _; refine pk ?_; refine blk_far ?_ ag.out _; refine pk ?_; exact ae.out⟩;have n1_ : Aside0 (((((bE.setCell ⟨ad, 0, none⟩ (.string ((rd_T62 ac aa).f0))).setCell ⟨ad, 1, none⟩ (.int .u64 ((rd_T62 ac aa).f1))).setCell ⟨ad, 2, none⟩ (.int .u64 ((rd_T62 ac aa).f2.f0))).setCell ⟨ad, 3, none⟩ (.int .u64 ((rd_T62 ac aa).f2.f1))).heap[ad]? = some (.cells #[.string ((rd_T62 ac aa).f0), .int .u64 ((rd_T62 ac aa).f1), .int .u64 ((rd_T62 ac aa).f2.f0), .int .u64 ((rd_T62 ac aa).f2.f1)] 62 (0, 0))) := ⟨by refine pk ?_; refine blk_put (cs := #[.string ((rd_T62 ac aa).f0), .int .u64 ((rd_T62 ac aa).f1), .int .u64 ((rd_T62 ac aa).f2.f0), .int .u64 0]) ?_ 3 _ rfl; refine pk ?_; refine blk_put (cs := #[.string ((rd_T62 ac aa).f0), .int .u64 ((rd_T62 ac aa).f1), .int .u64 0, .int .u64 0]) ?_ 2 _ rfl; refine pk ?_; refine blk_put (cs := #[.string ((rd_T62 ac aa).f0), .int .u64 0, .int .u64 0, .int .u64 0]) ?_ 1 _ rfl; refine pk ?_; refine blk_put (cs := #[.string (⟨#[]⟩ : ByteArray), .int .u64 0, .int .u64 0, .int .u64 0]) ?_ 0 _ rfl; refine pk ?_; exact af.out⟩;have n2_ : Aside0 (Below w.heap.size w ((((bE.setCell ⟨ad, 0, none⟩ (.string ((rd_T62 ac aa).f0))).setCell ⟨ad, 1, none⟩ (.int .u64 ((rd_T62 ac aa).f1))).setCell ⟨ad, 2, none⟩ (.int .u64 ((rd_T62 ac aa).f2.f0))).setCell ⟨ad, 3, none⟩ (.int .u64 ((rd_T62 ac aa).f2.f1)))) := ⟨pb HB⟩
                (try clear ae)
                (try clear af)
                (try clear HB)
                generalize ((((bE.setCell ⟨ad, 0, none⟩ (.string ((rd_T62 ac aa).f0))).setCell ⟨ad, 1, none⟩ (.int .u64 ((rd_T62 ac aa).f1))).setCell ⟨ad, 2, none⟩ (.int .u64 ((rd_T62 ac aa).f2.f0))).setCell ⟨ad, 3, none⟩ (.int .u64 ((rd_T62 ac aa).f2.f1))) = cX at n0_ n1_ n2_ ⊢
                have ae := n0_;have af := n1_;have HB := n2_;clear n0_ n1_ n2_;replace ae := am (blk_drew ae.out);replace af := am (blk_drew af.out);replace HB := am (below_drew1 HB.out);have aN : 0 ≤ ((ah) : Int) := of_decide_eq_true (by first | (with_reducible assumption) | assumption);have aO : (ah) < (ac.length : Int) := of_decide_eq_true (by first | (with_reducible assumption) | assumption);obtain ⟨aZ, bq, aB, aC, aD, aE⟩ := at_T62 aI.out (ah) aN aO;have av := aE;have aw := aD;have ax := aC;have ay := aB;obtain rfl : ao = aZ := (by injection bq);replace aB := (HB.out.cell (World.block_lt_of_cell? w _ aB)).trans aB;replace aC := (HB.out.cell (World.block_lt_of_cell? w _ aC)).trans aC;replace aD := (HB.out.cell (World.block_lt_of_cell? w _ aD)).trans aD;replace aE := (HB.out.cell (World.block_lt_of_cell? w _ aE)).trans aE;replace aN := eq_true aN;replace aO := eq_true aO
                refine start_ (n := 35) (S := fun w' => w'.cell? ⟨ad, 0, none⟩ = some (.string ((rd_T62 ac aa).f0)) ∧ w'.cell? ⟨ad, 1, none⟩ = some (.int .u64 ((rd_T62 ac aa).f1)) ∧ w'.cell? ⟨ad, 2, none⟩ = some (.int .u64 ((rd_T62 ac aa).f2.f0)) ∧ w'.cell? ⟨ad, 3, none⟩ = some (.int .u64 ((rd_T62 ac aa).f2.f1)) ∧ w'.cell? ⟨ap, 0, none⟩ = some (.int .u64 aq) ∧ w'.cell? ⟨ap, 1, none⟩ = some (.int .u64 ar) ∧ w'.cell? ⟨ap, 2, none⟩ = some (.int .i64 au) ∧ w'.cell? ⟨ap, 3, none⟩ = some (.slice (some ao) ac.length aF) ∧ w'.cell? (ao.add (((ah)).toNat * 4)) = some (.string ((rd_T62 ac (ah)).f0)) ∧ w'.cell? ⟨(ao.add (((ah)).toNat * 4)).block, (ao.add (((ah)).toNat * 4)).off + 1, none⟩ = some (.int .u64 ((rd_T62 ac (ah)).f1)) ∧ w'.cell? ⟨(ao.add (((ah)).toNat * 4)).block, (ao.add (((ah)).toNat * 4)).off + 2, none⟩ = some (.int .u64 ((rd_T62 ac (ah)).f2.f0)) ∧ w'.cell? ⟨(ao.add (((ah)).toNat * 4)).block, (ao.add (((ah)).toNat * 4)).off + 3, none⟩ = some (.int .u64 ((rd_T62 ac (ah)).f2.f1))) (ds := []) #[false, false, false, false, false, false, false, false, false, false, false, false, false, false, false, false, false, false, false, false, false, false, false, false, false, false, false, false, false, false, false, false, false, false, false] (by kernel_rfl) rfl rfl ⟨ce af 0, ce af 1, ce af 2, ce af 3, ce ae 0, ce ae 1, ce ae 2, ce ae 3, ((HB.out.cell (World.block_lt_of_cell? w _ ay)).trans ay), ((HB.out.cell (World.block_lt_of_cell? w _ ax)).trans ax), ((HB.out.cell (World.block_lt_of_cell? w _ aw)).trans aw), ((HB.out.cell (World.block_lt_of_cell? w _ av)).trans av)⟩ (fun hHeld => ?_); refine with_tabW bottom_Right.tab6 bottom_Right.bits6 (fun HT_ HW_ => ?_)
                generalize cX.drew = dz at ae af HB aB aC aD aE hHeld ⊢
                refine pu 0 ?_
                refine ta 1 hHeld ?_
                refine pu 2 ?_
                refine pu 3 ?_
                refine pu 4 ?_
                refine pu 5 ?_
                refine pu 7 ?_
                refine pu 9 ?_
                refine ta 6 hHeld ?_
                refine ta 8 hHeld ?_
                refine ta 10 hHeld ?_
                refine on1 11 (fun K hK => ?_)
                refine gs Try.func30 #[.agg #[.int .u64 aq, .int .u64 ar], .string ((rd_T62 ac aa).f0)] ?_
                with_reducible refine (sip_Sum.calls k2 aq ar ((rd_T62 ac aa).f0) aJ _ aW.out).mono ?_
                rintro e dA ⟨rfl, hb⟩
                refine ⟨_, rfl, ?_⟩
                replace ae := kb ae hb;replace af := kb af hb;replace HB := lb HB hb
                (try clear hb)
                (try clear hb2)
                (try clear hk)
                (try clear hi)
                refine hK.out _ _ ⟨ce af 0, ce af 1, ce af 2, ce af 3, ce ae 0, ce ae 1, ce ae 2, ce ae 3, ((HB.out.cell (World.block_lt_of_cell? w _ ay)).trans ay), ((HB.out.cell (World.block_lt_of_cell? w _ ax)).trans ax), ((HB.out.cell (World.block_lt_of_cell? w _ aw)).trans aw), ((HB.out.cell (World.block_lt_of_cell? w _ av)).trans av)⟩ (fun hHeld => ?_)
                clear hK K
                refine nm ?_
                refine pu 12 ?_
                refine pu 13 ?_
                refine pu 14 ?_
                refine pu 15 ?_
                refine pu 17 ?_
                refine ta 16 hHeld ?_
                refine pu 18 ?_
                refine pu 19 ?_
                refine pu 20 ?_
                refine pu 21 ?_
                refine pu 22 ?_
                refine pu 23 ?_
                refine pu 24 ?_
                refine pu 26 ?_
                refine pu 27 ?_
                refine ta 25 hHeld ?_
                refine pu 28 ?_
                refine ta 29 hHeld ?_
                refine ta 30 hHeld ?_
                refine on1 31 (fun K hK => ?_)
                refine goes_ Try.func33 (by kernel_rfl) rfl #[.agg #[.string ((rd_T62 ac (ah)).f0), .int .u64 ((rd_T62 ac (ah)).f1), .int .u64 ((rd_T62 ac (ah)).f2.f0), .int .u64 ((rd_T62 ac (ah)).f2.f1)], .agg #[.string ((rd_T62 ac aa).f0), .int .u64 ((rd_T62 ac aa).f1), .int .u64 ((rd_T62 ac aa).f2.f0), .int .u64 ((rd_T62 ac aa).f2.f1)]] (by rfl) rfl rfl (by (try simp only [List.map_toArray, List.map_cons, List.map_nil]); first | done | (simp only [hji30]; rfl) | rfl | (simp only [List.length_drop, List.length_take]; rfl)) ?_
                with_reducible refine (bottom_compare.calls k2 ((rd_T62 ac (ah)).f0) ((rd_T62 ac (ah)).f1) ((rd_T62 ac (ah)).f2.f0) ((rd_T62 ac (ah)).f2.f1) ((rd_T62 ac aa).f0) ((rd_T62 ac aa).f1) ((rd_T62 ac aa).f2.f0) ((rd_T62 ac aa).f2.f1) aM _ b3.out).mono ?_
                rintro e dB ⟨rfl, hb⟩
                refine ⟨_, rfl, ?_⟩
                replace ae := kb ae hb;replace af := kb af hb;replace HB := lb HB hb
                (try clear hb)
                (try clear hb2)
                (try clear hk)
                (try clear hi)
                refine hK.out _ _ ⟨ce af 0, ce af 1, ce af 2, ce af 3, ce ae 0, ce ae 1, ce ae 2, ce ae 3, ((HB.out.cell (World.block_lt_of_cell? w _ ay)).trans ay), ((HB.out.cell (World.block_lt_of_cell? w _ ax)).trans ax), ((HB.out.cell (World.block_lt_of_cell? w _ aw)).trans aw), ((HB.out.cell (World.block_lt_of_cell? w _ av)).trans av)⟩ (fun hHeld => ?_)
                clear hK K
                refine nm ?_
                refine pu 32 ?_
                refine pu 33 ?_
                refine pu 34 ?_
                refine done_ (done_of HT_.out (by kernel_rfl)) ?_
                try go_wp2
                go_roundg k2
                case measure => have := bu.out; have := HK2.out; omega
                case rel => exact ⟨(wrap64 (aa + 1)), (by first | rfl | (simp; done) | (simp [*]; done)), H', ⟨by have := bu.out; have := HK2.out; omega⟩, ⟨pk ae.out⟩, ⟨pb HB⟩⟩
              ·rw [if_neg bC] at H;exact absurd H (by simp)
             ·rw [if_neg bB] at H;exact absurd H (by simp)
            ·rw [if_neg aX] at H;have b1 : decide (0 < aa) = false := decide_eq_false aX;clear aX;have H' := am H;clear H;have az : 0 ≤ (aa : Int) := of_decide_eq_true (by first | (with_reducible assumption) | assumption);have aA : aa < (ac.length : Int) := of_decide_eq_true (by first | (with_reducible assumption) | assumption);obtain ⟨ao, aH, ai, aj, ak, an⟩ := at_T62 aI.out aa az aA;cases aH;replace ai := (HB.out.cell (World.block_lt_of_cell? w _ ai)).trans ai;replace aj := (HB.out.cell (World.block_lt_of_cell? w _ aj)).trans aj;replace ak := (HB.out.cell (World.block_lt_of_cell? w _ ak)).trans ak;replace an := (HB.out.cell (World.block_lt_of_cell? w _ an)).trans an;replace az := eq_true az;replace aA := eq_true aA
             try go_wp2_with (first | ((with_reducible refine gate_dst (N := 4) rfl ?_); (try (refine gate_guard (by rfl) ?_; dsimp only)); refine be 4 #[.string (⟨#[]⟩ : ByteArray), .int .u64 0, .int .u64 0, .int .u64 0] 62 ?_; intro ad hg bF hbox hb; have af := am (hbox); have aP := gq hg HB; have aQ := gq hg HB; replace HB := lb HB hb; obtain ⟨ag, aG, dn, dp⟩ := pm hg ae; replace ae := kb ae hb; clear hb hbox hg; obtain ⟨cC, cD, cE, cF, cG, cH, cI, cJ⟩ := g4 af))
             have n0_ : Aside0 (((((bF.setCell ⟨ad, 0, none⟩ (.string ((rd_T62 ac aa).f0))).setCell ⟨ad, 1, none⟩ (.int .u64 ((rd_T62 ac aa).f1))).setCell ⟨ad, 2, none⟩ (.int .u64 ((rd_T62 ac aa).f2.f0))).setCell ⟨ad, 3, none⟩ (.int .u64 ((rd_T62 ac aa).f2.f1))).heap[ap]? = some (.cells #[.int .u64 aq, .int .u64 ar, .int .i64 au, .slice (some ao) ac.length aF] 27 (0, 0))) := ⟨by refine pk ?_; refine blk_far ?_ ag.out _; refine pk ?_; refine blk_far ?_ ag.out _; refine pk ?_; refine blk_far ?_ ag.out _; refine pk ?_; refine blk_far ?_ ag.out _; refine pk ?_; exact ae.out⟩;have n1_ : Aside0 (((((bF.setCell ⟨ad, 0, none⟩ (.string ((rd_T62 ac aa).f0))).setCell ⟨ad, 1, none⟩ (.int .u64 ((rd_T62 ac aa).f1))).setCell ⟨ad, 2, none⟩ (.int .u64 ((rd_T62 ac aa).f2.f0))).setCell ⟨ad, 3, none⟩ (.int .u64 ((rd_T62 ac aa).f2.f1))).heap[ad]? = some (.cells #[.string ((rd_T62 ac aa).f0), .int .u64 ((rd_T62 ac aa).f1), .int .u64 ((rd_T62 ac aa).f2.f0), .int .u64 ((rd_T62 ac aa).f2.f1)] 62 (0, 0))) := ⟨by refine pk ?_; refine blk_put (cs := #[.string ((rd_T62 ac aa).f0), .int .u64 ((rd_T62 ac aa).f1), .int .u64 ((rd_T62 ac aa).f2.f0), .int .u64 0]) ?_ 3 _ rfl; refine pk ?_; refine blk_put (cs := #[.string ((rd_T62 ac aa).f0), .int .u64 ((rd_T62 ac aa).f1), .int .u64 0, .int .u64 0]) ?_ 2 _ rfl; refine pk ?_; refine blk_put (cs := #[.string ((rd_T62 ac aa).f0), .int .u64 0, .int .u64 0, .int .u64 0]) ?_ 1 _ rfl; refine pk ?_; refine blk_put (cs := #[.string (⟨#[]⟩ : ByteArray), .int .u64 0, .int .u64 0, .int .u64 0]) ?_ 0 _ rfl; refine pk ?_; exact af.out⟩;have n2_ : Aside0 (Below w.heap.size w ((((bF.setCell ⟨ad, 0, none⟩ (.string ((rd_T62 ac aa).f0))).setCell ⟨ad, 1, none⟩ (.int .u64 ((rd_T62 ac aa).f1))).setCell ⟨ad, 2, none⟩ (.int .u64 ((rd_T62 ac aa).f2.f0))).setCell ⟨ad, 3, none⟩ (.int .u64 ((rd_T62 ac aa).f2.f1)))) := ⟨pb HB⟩
             (try clear ae)
             (try clear af)
             (try clear HB)
             generalize ((((bF.setCell ⟨ad, 0, none⟩ (.string ((rd_T62 ac aa).f0))).setCell ⟨ad, 1, none⟩ (.int .u64 ((rd_T62 ac aa).f1))).setCell ⟨ad, 2, none⟩ (.int .u64 ((rd_T62 ac aa).f2.f0))).setCell ⟨ad, 3, none⟩ (.int .u64 ((rd_T62 ac aa).f2.f1))) = cY at n0_ n1_ n2_ ⊢
             have ae := n0_;have af := n1_;have HB := n2_;clear n0_ n1_ n2_;replace ae := am (blk_drew ae.out);replace af := am (blk_drew af.out);replace HB := am (below_drew1 HB.out)
             refine start_ (n := 35) (S := fun w' => w'.cell? ⟨ad, 0, none⟩ = some (.string ((rd_T62 ac aa).f0)) ∧ w'.cell? ⟨ad, 1, none⟩ = some (.int .u64 ((rd_T62 ac aa).f1)) ∧ w'.cell? ⟨ad, 2, none⟩ = some (.int .u64 ((rd_T62 ac aa).f2.f0)) ∧ w'.cell? ⟨ad, 3, none⟩ = some (.int .u64 ((rd_T62 ac aa).f2.f1)) ∧ w'.cell? ⟨ap, 0, none⟩ = some (.int .u64 aq) ∧ w'.cell? ⟨ap, 1, none⟩ = some (.int .u64 ar) ∧ w'.cell? ⟨ap, 2, none⟩ = some (.int .i64 au) ∧ w'.cell? ⟨ap, 3, none⟩ = some (.slice (some ao) ac.length aF)) (ds := []) #[false, false, false, false, false, false, false, false, false, false, false, false, false, false, false, false, false, false, false, false, false, false, false, false, false, false, false, false, false, false, false, false, false, false, false] (by kernel_rfl) rfl rfl ⟨ce af 0, ce af 1, ce af 2, ce af 3, ce ae 0, ce ae 1, ce ae 2, ce ae 3⟩ (fun hHeld => ?_); refine with_tabW bottom_Right.tab6 bottom_Right.bits6 (fun HT_ HW_ => ?_)
             generalize cY.drew = dC at ae af HB hHeld ⊢
             refine pu 0 ?_
             refine ta 1 hHeld ?_
             refine pu 2 ?_
             refine pu 3 ?_
             refine pu 4 ?_
             refine pu 5 ?_
             refine pu 7 ?_
             refine pu 9 ?_
             refine ta 6 hHeld ?_
             refine ta 8 hHeld ?_
             refine ta 10 hHeld ?_
             refine on1 11 (fun K hK => ?_)
             refine gs Try.func30 #[.agg #[.int .u64 aq, .int .u64 ar], .string ((rd_T62 ac aa).f0)] ?_
             with_reducible refine (sip_Sum.calls k2 aq ar ((rd_T62 ac aa).f0) aJ _ aW.out).mono ?_
             rintro e dD ⟨rfl, hb⟩
             refine ⟨_, rfl, ?_⟩
             replace ae := kb ae hb;replace af := kb af hb;replace HB := lb HB hb
             (try clear hb)
             (try clear hb2)
             (try clear hk)
             (try clear hi)
             refine hK.out _ _ ⟨ce af 0, ce af 1, ce af 2, ce af 3, ce ae 0, ce ae 1, ce ae 2, ce ae 3⟩ (fun hHeld => ?_)
             clear hK K
             refine nm ?_
             refine pu 12 ?_
             refine pu 13 ?_
             refine pu 14 ?_
             refine pu 15 ?_
             refine pu 17 ?_
             refine ta 16 hHeld ?_
             refine pu 18 ?_
             refine pu 19 ?_
             refine pu 20 ?_
             refine pu 21 ?_
             refine pu 22 ?_
             refine pu 23 ?_
             refine po 24 ?_
             refine po 25 ?_
             refine po 26 ?_
             refine po 27 ?_
             refine po 28 ?_
             refine po 29 ?_
             refine po 30 ?_
             refine po 31 ?_
             refine po 32 ?_
             refine pu 33 ?_
             refine pu 34 ?_
             refine done_ (done_of HT_.out (by kernel_rfl)) ?_
             try go_wp2
             go_roundg k2
             case measure => have := bu.out; have := HK2.out; omega
             case rel => exact ⟨(wrap64 (aa + 1)), (by first | rfl | (simp; done) | (simp [*]; done)), H', ⟨by have := bu.out; have := HK2.out; omega⟩, ⟨pk ae.out⟩, ⟨pb HB⟩⟩
          ·rw [if_neg aT] at H;have bW : (((rd_T62 ac aa).f1) == aJ) = false := beq_eq_false_iff_ne.mpr aT;have bX : (((rd_T62 ac aa).f1) != aJ) = true := bne_iff_ne.mpr aT;obtain rfl := Option.some.inj H;have az : 0 ≤ (aa : Int) := of_decide_eq_true (by first | (with_reducible assumption) | assumption);have aA : aa < (ac.length : Int) := of_decide_eq_true (by first | (with_reducible assumption) | assumption);obtain ⟨ao, aH, ai, aj, ak, an⟩ := at_T62 aI.out aa az aA;cases aH;replace ai := (HB.out.cell (World.block_lt_of_cell? w _ ai)).trans ai;replace aj := (HB.out.cell (World.block_lt_of_cell? w _ aj)).trans aj;replace ak := (HB.out.cell (World.block_lt_of_cell? w _ ak)).trans ak;replace an := (HB.out.cell (World.block_lt_of_cell? w _ an)).trans an;replace az := eq_true az;replace aA := eq_true aA
           try go_wp2_with (first | ((with_reducible refine gate_dst (N := 4) rfl ?_); (try (refine gate_guard (by rfl) ?_; dsimp only)); refine be 4 #[.string (⟨#[]⟩ : ByteArray), .int .u64 0, .int .u64 0, .int .u64 0] 62 ?_; intro ad hg bG hbox hb; have af := am (hbox); have aP := gq hg HB; have aQ := gq hg HB; replace HB := lb HB hb; obtain ⟨ag, aG, dq, dr⟩ := pm hg ae; replace ae := kb ae hb; clear hb hbox hg; obtain ⟨cK, cL, cM, cN, cO, cP, cQ, cR⟩ := g4 af))
           have n0_ : Aside0 (((((bG.setCell ⟨ad, 0, none⟩ (.string ((rd_T62 ac aa).f0))).setCell ⟨ad, 1, none⟩ (.int .u64 ((rd_T62 ac aa).f1))).setCell ⟨ad, 2, none⟩ (.int .u64 ((rd_T62 ac aa).f2.f0))).setCell ⟨ad, 3, none⟩ (.int .u64 ((rd_T62 ac aa).f2.f1))).heap[ap]? = some (.cells #[.int .u64 aq, .int .u64 ar, .int .i64 au, .slice (some ao) ac.length aF] 27 (0, 0))) := ⟨by refine pk ?_; refine blk_far ?_ ag.out _; refine pk ?_; refine blk_far ?_ ag.out _; refine pk ?_; refine blk_far ?_ ag.out _; refine pk ?_; refine blk_far ?_ ag.out _; refine pk ?_; exact ae.out⟩;have n1_ : Aside0 (((((bG.setCell ⟨ad, 0, none⟩ (.string ((rd_T62 ac aa).f0))).setCell ⟨ad, 1, none⟩ (.int .u64 ((rd_T62 ac aa).f1))).setCell ⟨ad, 2, none⟩ (.int .u64 ((rd_T62 ac aa).f2.f0))).setCell ⟨ad, 3, none⟩ (.int .u64 ((rd_T62 ac aa).f2.f1))).heap[ad]? = some (.cells #[.string ((rd_T62 ac aa).f0), .int .u64 ((rd_T62 ac aa).f1), .int .u64 ((rd_T62 ac aa).f2.f0), .int .u64 ((rd_T62 ac aa).f2.f1)] 62 (0, 0))) := ⟨by refine pk ?_; refine blk_put (cs := #[.string ((rd_T62 ac aa).f0), .int .u64 ((rd_T62 ac aa).f1), .int .u64 ((rd_T62 ac aa).f2.f0), .int .u64 0]) ?_ 3 _ rfl; refine pk ?_; refine blk_put (cs := #[.string ((rd_T62 ac aa).f0), .int .u64 ((rd_T62 ac aa).f1), .int .u64 0, .int .u64 0]) ?_ 2 _ rfl; refine pk ?_; refine blk_put (cs := #[.string ((rd_T62 ac aa).f0), .int .u64 0, .int .u64 0, .int .u64 0]) ?_ 1 _ rfl; refine pk ?_; refine blk_put (cs := #[.string (⟨#[]⟩ : ByteArray), .int .u64 0, .int .u64 0, .int .u64 0]) ?_ 0 _ rfl; refine pk ?_; exact af.out⟩;have n2_ : Aside0 (Below w.heap.size w ((((bG.setCell ⟨ad, 0, none⟩ (.string ((rd_T62 ac aa).f0))).setCell ⟨ad, 1, none⟩ (.int .u64 ((rd_T62 ac aa).f1))).setCell ⟨ad, 2, none⟩ (.int .u64 ((rd_T62 ac aa).f2.f0))).setCell ⟨ad, 3, none⟩ (.int .u64 ((rd_T62 ac aa).f2.f1)))) := ⟨pb HB⟩
           (try clear ae)
           (try clear af)
           (try clear HB)
           generalize ((((bG.setCell ⟨ad, 0, none⟩ (.string ((rd_T62 ac aa).f0))).setCell ⟨ad, 1, none⟩ (.int .u64 ((rd_T62 ac aa).f1))).setCell ⟨ad, 2, none⟩ (.int .u64 ((rd_T62 ac aa).f2.f0))).setCell ⟨ad, 3, none⟩ (.int .u64 ((rd_T62 ac aa).f2.f1))) = cZ at n0_ n1_ n2_ ⊢
           have ae := n0_;have af := n1_;have HB := n2_;clear n0_ n1_ n2_;replace ae := am (blk_drew ae.out);replace af := am (blk_drew af.out);replace HB := am (below_drew1 HB.out)
           refine start_ (n := 35) (S := fun w' => w'.cell? ⟨ad, 0, none⟩ = some (.string ((rd_T62 ac aa).f0)) ∧ w'.cell? ⟨ad, 1, none⟩ = some (.int .u64 ((rd_T62 ac aa).f1)) ∧ w'.cell? ⟨ad, 2, none⟩ = some (.int .u64 ((rd_T62 ac aa).f2.f0)) ∧ w'.cell? ⟨ad, 3, none⟩ = some (.int .u64 ((rd_T62 ac aa).f2.f1)) ∧ w'.cell? ⟨ap, 0, none⟩ = some (.int .u64 aq) ∧ w'.cell? ⟨ap, 1, none⟩ = some (.int .u64 ar) ∧ w'.cell? ⟨ap, 2, none⟩ = some (.int .i64 au) ∧ w'.cell? ⟨ap, 3, none⟩ = some (.slice (some ao) ac.length aF)) (ds := []) #[false, false, false, false, false, false, false, false, false, false, false, false, false, false, false, false, false, false, false, false, false, false, false, false, false, false, false, false, false, false, false, false, false, false, false] (by kernel_rfl) rfl rfl ⟨ce af 0, ce af 1, ce af 2, ce af 3, ce ae 0, ce ae 1, ce ae 2, ce ae 3⟩ (fun hHeld => ?_); refine with_tabW bottom_Right.tab6 bottom_Right.bits6 (fun HT_ HW_ => ?_)
           generalize cZ.drew = dE at ae af HB hHeld ⊢
           refine pu 0 ?_
           refine ta 1 hHeld ?_
           refine pu 2 ?_
           refine pu 3 ?_
           refine pu 4 ?_
           refine pu 5 ?_
           refine pu 7 ?_
           refine pu 9 ?_
           refine ta 6 hHeld ?_
           refine ta 8 hHeld ?_
           refine ta 10 hHeld ?_
           refine on1 11 (fun K hK => ?_)
           refine gs Try.func30 #[.agg #[.int .u64 aq, .int .u64 ar], .string ((rd_T62 ac aa).f0)] ?_
           with_reducible refine (sip_Sum.calls k2 aq ar ((rd_T62 ac aa).f0) aJ _ aW.out).mono ?_
           rintro e dF ⟨rfl, hb⟩
           refine ⟨_, rfl, ?_⟩
           replace ae := kb ae hb;replace af := kb af hb;replace HB := lb HB hb
           (try clear hb)
           (try clear hb2)
           (try clear hk)
           (try clear hi)
           refine hK.out _ _ ⟨ce af 0, ce af 1, ce af 2, ce af 3, ce ae 0, ce ae 1, ce ae 2, ce ae 3⟩ (fun hHeld => ?_)
           clear hK K
           refine nm ?_
           refine pu 12 ?_
           refine pu 13 ?_
           refine pu 14 ?_
           refine po 15 ?_
           refine po 16 ?_
           refine po 17 ?_
           refine po 18 ?_
           refine pu 19 ?_
           refine pu 20 ?_
           refine po 21 ?_
           refine po 22 ?_
           refine po 23 ?_
           refine po 24 ?_
           refine po 25 ?_
           refine po 26 ?_
           refine po 27 ?_
           refine po 28 ?_
           refine po 29 ?_
           refine po 30 ?_
           refine po 31 ?_
           refine po 32 ?_
           refine po 33 ?_
           refine pu 34 ?_
           refine done_ (done_of HT_.out (by kernel_rfl)) ?_
           try go_wp2
           go_ret
           exact ⟨by first | rfl | (simp [errW_none, errW_some] <;> rfl) | (simp [*, errW_none, errW_some] <;> rfl), pb HB⟩
        ·rw [if_neg bw] at H;exact absurd H (by simp)
       ·rw [if_neg bv] at H;exact absurd H (by simp)
      ·rw [if_neg aU] at H;have bT : decide (aa < (ac.length : Int)) = false := decide_eq_false aU;clear aU;obtain rfl := Option.some.inj H
       go_wp2
       go_ret
       exact ⟨by first | rfl | (simp [errW_none, errW_some] <;> rfl) | (simp [*, errW_none, errW_some] <;> rfl), pb HB⟩
end Go.Proofs.Ytmfffbafldbihaa.H
