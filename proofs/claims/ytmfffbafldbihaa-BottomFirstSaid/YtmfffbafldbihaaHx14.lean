import Derived.Test.YtmfffbafldbihaaHx0
import Derived.Test.YtmfffbafldbihaaHx1
import Derived.Test.YtmfffbafldbihaaHx3
namespace Go.Proofs.Ytmfffbafldbihaa.H
open Go.RowKit Go.Proofs.YtmfffbafldbihaaW.PrintWords Go.Proofs.YtmfffbafldbihaaW.PrintLast Go.Proofs.YtmfffbafldbihaaW.PrintMore Go.Proofs.YtmfffbafldbihaaW.Sq
attribute [local go_sem] max2_int min2_int max_two min_two max_three min_three max_four min_four
set_option linter.unusedVariables false
set_option linter.unusedSimpArgs false

attribute [local go_sem high] eqA24 eqA60
def l14_Refs.l0 : Nat → List (S60) → List (S62) → Int → Int → Option ((List (S60)))
 | 0, _, _, _, _ => none
 | k + 1, x3, x6, x7, x8 => if x8 < x7 then (if 0 ≤ x8 then (if x8 < (x6.length : Int) then (if x3.length < 3518437208883 then (l14_Refs.l0 k (x3 ++ [(⟨(rd_T62 x6 x8).f0, (rd_T62 x6 x8).f1, (⟨(rd_T62 x6 x8).f2.f0, (rd_T62 x6 x8).f2.f1⟩ : S50)⟩ : S60)]) x6 x7 (wrap64 (x8 + 1))) else (none)) else (none)) else (none)) else (some x3)
def l14_Refs.f (k : Nat) (l0 : List (S62)) : Option ((List (S60))) := l14_Refs.l0 k ([] : List (S60)) l0 (l0.length : Int) 0
theorem l14_Refs.mono_l : ∀ k, (∀ y0 y1 y2 y3, LeO (l14_Refs.l0 k y0 y1 y2 y3) (l14_Refs.l0 (k + 1) y0 y1 y2 y3))
 | 0 => fun _ _ _ _ r h => by simp [l14_Refs.l0] at h
 | k + 1 => by
  have ih0 := l14_Refs.mono_l k
  ·intro y0 y1 y2 y3
   unfold l14_Refs.l0
   repeat' first
   | (with_reducible exact ih0 _ _ _ _)
   | (with_reducible exact LeO.refl _)
   | (with_reducible exact LeO.none _)
   | (with_reducible refine LeO.ite ?_ ?_)
   | (with_reducible refine LeO.bind ?_ (fun _ => ?_))
theorem l14_Refs.mono : ∀ a0 k, LeO (l14_Refs.f k a0) (l14_Refs.f (k + 1) a0) := by
 intro a0 k
 have ih0 := l14_Refs.mono_l k
 unfold l14_Refs.f
 repeat' first
   | (with_reducible exact ih0 _ _ _ _)
   | (with_reducible exact LeO.refl _)
   | (with_reducible exact LeO.none _)
   | (with_reducible refine LeO.ite ?_ ?_)
   | (with_reducible refine LeO.bind ?_ (fun _ => ?_))
set_option maxHeartbeats 8000000 in
set_option maxRecDepth 100000 in
theorem l14_Refs.calls (k : Nat) (A0 : Option Addr) (c0 : Nat) (l0 : List (S62)) (r : List (S60)) (w : World) (aq : Kd.C k62 w A0 l0.length l0) (ar : l0.length ≤ c0) (h : l14_Refs.f k l0 = some r) :
  Calls Try.prog 26 #[.slice A0 l0.length c0] w fun e w' => ∃ au : Value, e = .returned (au) ∧ Kd.R k60 60 w' w.heap.size (fun _ => True) au r ∧ Below w.heap.size w w' := by
 have hu62 := Try.underlying62;have ax := am aq;have aR := am ar;clear aq ar;have HB := am (Below.refl w.heap.size w);have H : (l14_Refs.l0 k ([] : List (S60)) l0 (l0.length : Int) 0) = some r := h;clear h;have H' := am H;clear H
 go_enter Try.func26, Try.ntmps26
 go_wp2
 go_loopg [3, 8] k (fun kq v3 v8 w' => ∃ (ae : List (S60)) (aa : Int), v8 = .int .i64 aa ∧ Aside0 (l14_Refs.l0 kq ae l0 (l0.length : Int) aa = some r) ∧ Aside0 (kq ≤ k) ∧ Aside0 (Kd.R k60 60 w' w.heap.size (fun _ => True) v3 ae) ∧ Aside0 (Below w.heap.size w w'))
 case atStart => exact ⟨(([] : List (S60))), (0), (by first | rfl | (simp; done) | (simp [*]; done)), H', ⟨Nat.le_refl _⟩, ⟨by first | exact Kd.R_nil _ _ _ _ _ | exact Kd.N_nil _ _ _ _ _ | exact Kd.V_nil _ _ _ _ _ | exact Kd.Q_nil _ _ _ _ _ | exact Kd.S_nil _ _ _ _ _⟩, ⟨pb HB⟩⟩
 case round =>
  clear H';obtain ⟨ae, aa, rfl, HA, HK1, af, HB⟩ := hrel
  cases gk with
  | zero => exact absurd HA.out (by simp [l14_Refs.l0])
  | succ k1 =>
   have H := HA.out;clear HA
   simp only [l14_Refs.l0] at H
   by_cases c2 : aa < (l0.length : Int)
   ·rw [if_pos c2] at H;have av : decide (aa < (l0.length : Int)) = true := decide_eq_true c2;clear c2
    by_cases c3 : 0 ≤ aa
    ·rw [if_pos c3] at H;have aM : decide (0 ≤ aa) = true := decide_eq_true c3;clear c3
     by_cases c4 : aa < (l0.length : Int)
     ·rw [if_pos c4] at H;have aN : decide (aa < (l0.length : Int)) = true := decide_eq_true c4;clear c4
      by_cases c5 : ae.length < 3518437208883
      ·rw [if_pos c5] at H;have LMc5 := am c5;clear c5;obtain ⟨ao, hy274⟩ : ∃ y_ : List (S60), y_ = (ae ++ [(⟨(rd_T62 l0 aa).f0, (rd_T62 l0 aa).f1, (⟨(rd_T62 l0 aa).f2.f0, (rd_T62 l0 aa).f2.f1⟩ : S50)⟩ : S60)]) := ⟨_, rfl⟩
       replace H : (l14_Refs.l0 k1 ao l0 (l0.length : Int) (wrap64 (aa + 1))) = some r := by first | (rw [hy274]; with_reducible exact H) | (have H2_ := (Option.bind_some _ _).symm.trans H; rw [hy274]; with_reducible exact H2_) | (have H2_ := (Option.bind_some _ _).symm.trans H; with_reducible exact H2_) | with_reducible exact H | (rw [hy274]; exact H) | exact H
       have Ny274 := am hy274;clear hy274;have H' := am H;clear H;have ak : 0 ≤ (aa : Int) := of_decide_eq_true (by first | (with_reducible assumption) | assumption);have an : aa < (l0.length : Int) := of_decide_eq_true (by first | (with_reducible assumption) | assumption);obtain ⟨aI, aw, ag, ah, ai, aj⟩ := at_T62 ax.out aa ak an;cases aw;replace ag := (HB.out.cell (World.block_lt_of_cell? w _ ag)).trans ag;replace ah := (HB.out.cell (World.block_lt_of_cell? w _ ah)).trans ah;replace ai := (HB.out.cell (World.block_lt_of_cell? w _ ai)).trans ai;replace aj := (HB.out.cell (World.block_lt_of_cell? w _ aj)).trans aj;replace ak := eq_true ak;replace an := eq_true an
       go_wp2_with (first | ((with_reducible refine gate_dst (N := 5) rfl ?_); refine be 5 #[.string (⟨#[]⟩ : ByteArray), .int .u64 0, .int .u64 0, .int .u64 0] 62 ?_; intro ac hg w6 hbox hb; replace af := rb af hb; have ad := am (hbox); have aJ := gq hg HB; have aK := gq hg HB; replace HB := lb HB hb; clear hb hbox hg; obtain ⟨ay, az, aA, aC, aD, aE, aG, aH⟩ := g4 ad) | ((with_reducible refine gate_builtin (b := .append) (xs := #[.tmp 12, .tmp 14]) rfl ?_); at_builtin; refine Kd.R_append k60 (w0 := w) w.heap.size rfl (.tmp 12) (.tmp 14) 28 60 (.agg #[(.string ⟨#[]⟩), (.int .u64 0), (.int .u64 0), (.int .u64 0)]) 40 rfl Try.underlying28 info60 rfl (by decide) (by omega) u3 ae (⟨(rd_T62 l0 aa).f0, (rd_T62 l0 aa).f1, (⟨(rd_T62 l0 aa).f2.f0, (rd_T62 l0 aa).f2.f1⟩ : S50)⟩ : S60) [.string ((rd_T62 l0 aa).f0), .int .u64 ((rd_T62 l0 aa).f1), .int .u64 ((rd_T62 l0 aa).f2.f0), .int .u64 ((rd_T62 l0 aa).f2.f1)] (fun _ => True) (fun _ => False) rfl (by first | (go_simp; done) | (go_simp; rfl)) ?aP (fun _ hk => hk.elim) ?aF ?aO ?aB ?aS ?aL ?_; (case aP => exact k60_mkM _ _ _ (⟨(rd_T62 l0 aa).f0, (rd_T62 l0 aa).f1, (⟨(rd_T62 l0 aa).f2.f0, (rd_T62 l0 aa).f2.f1⟩ : S50)⟩ : S60)); (case aB => exact (pb HB)); (case aF => exact (fun _ _ => trivial)); (case aO => exact (pr (Kd.R_mono (Kd.R_far (p := ⟨ac, 3, none⟩) (Kd.R_far (p := ⟨ac, 2, none⟩) (Kd.R_far (p := ⟨ac, 1, none⟩) (Kd.R_far (p := ⟨ac, 0, none⟩) (Kd.R_types af.out ad.out (by decide)) (fun _ hk => hk.2) (.string ((rd_T62 l0 aa).f0))) (fun _ hk => hk.2) (.int .u64 ((rd_T62 l0 aa).f1))) (fun _ hk => hk.2) (.int .u64 ((rd_T62 l0 aa).f2.f0))) (fun _ hk => hk.2) (.int .u64 ((rd_T62 l0 aa).f2.f1))) (fun _ hk => trivial)))); (case aS => exact (below_size (pb HB))); (case aL => have := LMc5.out; omega); intro aQ w8 ho hb hg hat; rw [← Ny274.out] at ho; replace ad := am (blk_grown (g := ac) (o := .cells #[.string ((rd_T62 l0 aa).f0), .int .u64 ((rd_T62 l0 aa).f1), .int .u64 ((rd_T62 l0 aa).f2.f0), .int .u64 ((rd_T62 l0 aa).f2.f1)] 62 (0, 0)) (by refine pk ?_; refine blk_put (cs := #[.string ((rd_T62 l0 aa).f0), .int .u64 ((rd_T62 l0 aa).f1), .int .u64 ((rd_T62 l0 aa).f2.f0), .int .u64 0]) ?_ 3 _ rfl; refine pk ?_; refine blk_put (cs := #[.string ((rd_T62 l0 aa).f0), .int .u64 ((rd_T62 l0 aa).f1), .int .u64 0, .int .u64 0]) ?_ 2 _ rfl; refine pk ?_; refine blk_put (cs := #[.string ((rd_T62 l0 aa).f0), .int .u64 0, .int .u64 0, .int .u64 0]) ?_ 1 _ rfl; refine pk ?_; refine blk_put (cs := #[.string (⟨#[]⟩ : ByteArray), .int .u64 0, .int .u64 0, .int .u64 0]) ?_ 0 _ rfl; refine pk ?_; exact ad.out) hg (Kd.R_ne af.out ad.out (by decide))); replace HB := am (hb); have ap := am (ho); clear af; clear ho hb hg hat))
       go_roundg k1
       case measure => have := HK1.out; omega
       case rel => exact ⟨(ao), (wrap64 (aa + 1)), (by first | rfl | (simp; done) | (simp [*]; done)), H', ⟨by have := HK1.out; omega⟩, ⟨pr ap.out⟩, ⟨pb HB⟩⟩
      ·rw [if_neg c5] at H;exact absurd H (by simp)
     ·rw [if_neg c4] at H;exact absurd H (by simp)
    ·rw [if_neg c3] at H;exact absurd H (by simp)
   ·rw [if_neg c2] at H;have av : decide (aa < (l0.length : Int)) = false := decide_eq_false c2;clear c2;obtain rfl := Option.some.inj H
    go_wp2
    go_ret
    exact ⟨_, by first | rfl | (simp [errW_none, errW_some] <;> rfl) | (simp [*, errW_none, errW_some] <;> rfl), by refine pr ?_; exact af.out, pb HB⟩
def r14_Same.l0 : Nat → List (S60) → List (S60) → Int → Option (Bool)
 | 0, _, _, _ => none
 | k + 1, x0, x1, x5 => if x5 < (x0.length : Int) then (if 0 ≤ x5 then (if x5 < (x1.length : Int) then (if (!((((rd_T60 x0 x5).f0).toList) == (((rd_T60 x1 x5).f0).toList)) || (!(((rd_T60 x0 x5).f1) == ((rd_T60 x1 x5).f1)) || ((!(((rd_T60 x0 x5).f2.f0) == ((rd_T60 x1 x5).f2.f0)) || (!(((rd_T60 x0 x5).f2.f1) == ((rd_T60 x1 x5).f2.f1))))))) = true then (some false) else (r14_Same.l0 k x0 x1 (wrap64 (x5 + 1)))) else (none)) else (none)) else (some true)
def r14_Same.f (k : Nat) (l0 : List (S60)) (l1 : List (S60)) : Option (Bool) := if (l0.length : Int) = (l1.length : Int) then (r14_Same.l0 k l0 l1 0) else (some false)
theorem r14_Same.mono_l : ∀ k, (∀ y0 y1 y2, LeO (r14_Same.l0 k y0 y1 y2) (r14_Same.l0 (k + 1) y0 y1 y2))
 | 0 => fun _ _ _ r h => by simp [r14_Same.l0] at h
 | k + 1 => by
  have ih0 := r14_Same.mono_l k
  ·intro y0 y1 y2
   unfold r14_Same.l0
   repeat' first
   | (with_reducible exact ih0 _ _ _)
   | (with_reducible exact LeO.refl _)
   | (with_reducible exact LeO.none _)
   | (with_reducible refine LeO.ite ?_ ?_)
   | (with_reducible refine LeO.bind ?_ (fun _ => ?_))
theorem r14_Same.mono : ∀ a0 a1 k, LeO (r14_Same.f k a0 a1) (r14_Same.f (k + 1) a0 a1) := by
 intro a0 a1 k
 have ih0 := r14_Same.mono_l k
 unfold r14_Same.f
 repeat' first
   | (with_reducible exact ih0 _ _ _)
   | (with_reducible exact LeO.refl _)
   | (with_reducible exact LeO.none _)
   | (with_reducible refine LeO.ite ?_ ?_)
   | (with_reducible refine LeO.bind ?_ (fun _ => ?_))
set_option maxHeartbeats 8000000 in
set_option maxRecDepth 100000 in
theorem r14_Same.calls (k : Nat) (A0 : Option Addr) (c0 : Nat) (l0 : List (S60)) (A1 : Option Addr) (c1 : Nat) (l1 : List (S60)) (r : Bool) (w : World) (az : Kd.C k60 w A0 l0.length l0) (aA : l0.length ≤ c0) (aB : Kd.C k60 w A1 l1.length l1) (aC : l1.length ≤ c1) (h : r14_Same.f k l0 l1 = some r) :
  Calls Try.prog 29 #[.slice A0 l0.length c0, .slice A1 l1.length c1] w fun e w' => e = .returned (.bool r) ∧ Drawn0 w w' := by
 have hu60 := Try.underlying60;have aD := am az;have aJ := am aA;clear az aA;have aE := am aB;have aK := am aC;clear aB aC;have H : (if (l0.length : Int) = (l1.length : Int) then (r14_Same.l0 k l0 l1 0) else (some false)) = some r := h;clear h
 by_cases c3 : (l0.length : Int) = (l1.length : Int)
 rotate_left
 ·rw [if_neg c3] at H;have au : ((l0.length : Int) == (l1.length : Int)) = false := beq_eq_false_iff_ne.mpr c3;have av : ((l0.length : Int) != (l1.length : Int)) = true := bne_iff_ne.mpr c3
  have aw : (l0.length == l1.length) = false := by first | simpa using c3 | (simp at c3 ⊢; omega)
  obtain rfl := Option.some.inj H
  go_enter Try.func29, Try.ntmps29
  go_wp2
  repeat (go_quiet (fail); try go_wp2)
  go_ret
  exact ⟨by first | rfl | (simp; done) | (simp [*]; done), by repeat (first | exact Drawn0.refl _ | apply Drawn0.step)⟩
 rw [if_pos c3] at H;have au : ((l0.length : Int) == (l1.length : Int)) = true := beq_iff_eq.mpr c3;have av : ((l0.length : Int) != (l1.length : Int)) = false := bne_eq_false_iff_eq.mpr c3
 have aw : (l0.length == l1.length) = true := by first | simpa using c3 | (simp at c3 ⊢; omega)
 clear c3;have H' := am H;clear H
 go_enter Try.func29, Try.ntmps29
 go_wp2
 repeat (go_quiet (fail); try go_wp2)
 go_loopg [5] k (fun kq v5 w' => ∃ (aa : Int), v5 = .int .i64 aa ∧ Aside0 (r14_Same.l0 kq l0 l1 aa = some r) ∧ Aside0 (kq ≤ k) ∧ Drawn0 w w')
 case atStart => exact ⟨(0), (by first | rfl | (simp; done) | (simp [*]; done)), H', ⟨Nat.le_refl _⟩, by repeat (first | exact Drawn0.refl _ | apply Drawn0.step)⟩
 case round =>
  clear H';(try clear c1);(try clear c2);(try clear p2);(try clear c3);(try clear au);(try clear av);(try clear aw);obtain ⟨aa, rfl, HA, HK1, ⟨m1, rfl⟩⟩ := hrel
  cases gk with
  | zero => exact absurd HA.out (by simp [r14_Same.l0])
  | succ k1 =>
   have H := HA.out;clear HA
   simp only [r14_Same.l0] at H
   by_cases c4 : aa < (l0.length : Int)
   ·rw [if_pos c4] at H;have aF : decide (aa < (l0.length : Int)) = true := decide_eq_true c4;clear c4
    by_cases c5 : 0 ≤ aa
    ·rw [if_pos c5] at H;have aH : decide (0 ≤ aa) = true := decide_eq_true c5;clear c5
     by_cases c6 : aa < (l1.length : Int)
     ·rw [if_pos c6] at H;have aI : decide (aa < (l1.length : Int)) = true := decide_eq_true c6;clear c6
      by_cases c7 : (!((((rd_T60 l0 aa).f0).toList) == (((rd_T60 l1 aa).f0).toList)) || (!(((rd_T60 l0 aa).f1) == ((rd_T60 l1 aa).f1)) || ((!(((rd_T60 l0 aa).f2.f0) == ((rd_T60 l1 aa).f2.f0)) || (!(((rd_T60 l0 aa).f2.f1) == ((rd_T60 l1 aa).f2.f1))))))) = true
      ·rw [if_pos c7] at H;have aG : (!((((rd_T60 l0 aa).f0).toList) == (((rd_T60 l1 aa).f0).toList)) || (!(((rd_T60 l0 aa).f1) == ((rd_T60 l1 aa).f1)) || ((!(((rd_T60 l0 aa).f2.f0) == ((rd_T60 l1 aa).f2.f0)) || (!(((rd_T60 l0 aa).f2.f1) == ((rd_T60 l1 aa).f2.f1))))))) = true := c7;clear c7;obtain rfl := Option.some.inj H;have ac : 0 ≤ (aa : Int) := of_decide_eq_true (by first | (with_reducible assumption) | assumption);have ad : aa < (l0.length : Int) := of_decide_eq_true (by first | (with_reducible assumption) | assumption);obtain ⟨ax, ag, ai, aj, ak, an⟩ := at_T60 aD.out aa ac ad;cases ag;replace ac := eq_true ac;replace ad := eq_true ad;have ae : 0 ≤ (aa : Int) := of_decide_eq_true (by first | (with_reducible assumption) | assumption);have af : aa < (l1.length : Int) := of_decide_eq_true (by first | (with_reducible assumption) | assumption);obtain ⟨ay, ah, ao, ap, aq, ar⟩ := at_T60 aE.out aa ae af;cases ah;replace ae := eq_true ae;replace af := eq_true af
       go_wp2
       repeat (go_quiet (fail); try go_wp2)
       go_ret
       exact ⟨by first | rfl | (simp; done) | (simp [*]; done), by repeat (first | exact Drawn0.refl _ | apply Drawn0.step)⟩
      ·rw [if_neg c7] at H
       have aG : (!((((rd_T60 l0 aa).f0).toList) == (((rd_T60 l1 aa).f0).toList)) || (!(((rd_T60 l0 aa).f1) == ((rd_T60 l1 aa).f1)) || ((!(((rd_T60 l0 aa).f2.f0) == ((rd_T60 l1 aa).f2.f0)) || (!(((rd_T60 l0 aa).f2.f1) == ((rd_T60 l1 aa).f2.f1))))))) = false := by simpa using c7
       clear c7;have H' := am H;clear H;have ac : 0 ≤ (aa : Int) := of_decide_eq_true (by first | (with_reducible assumption) | assumption);have ad : aa < (l0.length : Int) := of_decide_eq_true (by first | (with_reducible assumption) | assumption);obtain ⟨ax, ag, ai, aj, ak, an⟩ := at_T60 aD.out aa ac ad;cases ag;replace ac := eq_true ac;replace ad := eq_true ad;have ae : 0 ≤ (aa : Int) := of_decide_eq_true (by first | (with_reducible assumption) | assumption);have af : aa < (l1.length : Int) := of_decide_eq_true (by first | (with_reducible assumption) | assumption);obtain ⟨ay, ah, ao, ap, aq, ar⟩ := at_T60 aE.out aa ae af;cases ah;replace ae := eq_true ae;replace af := eq_true af
       go_wp2
       repeat (go_quiet (fail); try go_wp2)
       go_roundg k1
       case measure => have := HK1.out; omega
       case rel => exact ⟨(wrap64 (aa + 1)), (by first | rfl | (simp; done) | (simp [*]; done)), H', ⟨by have := HK1.out; omega⟩, by repeat (first | exact Drawn0.refl _ | apply Drawn0.step)⟩
     ·rw [if_neg c6] at H;exact absurd H (by simp)
    ·rw [if_neg c5] at H;exact absurd H (by simp)
   ·rw [if_neg c4] at H;have aF : decide (aa < (l0.length : Int)) = false := decide_eq_false c4;clear c4;obtain rfl := Option.some.inj H
    go_wp2
    repeat (go_quiet (fail); try go_wp2)
    go_ret
    exact ⟨by first | rfl | (simp; done) | (simp [*]; done), by repeat (first | exact Drawn0.refl _ | apply Drawn0.step)⟩
def l14_same.f (k : Nat) (a0_0 : Int) (a0_1 : Int) (a0_2 : Int) (l0_3 : List (S62)) (a1_0 : Int) (a1_1 : Int) (a1_2 : Int) (l1_3 : List (S60)) : Option (Bool) := if (a0_0 == a1_0 && (a0_1 == a1_1)) = true then (if a0_2 = a1_2 then ((l14_Refs.f k l0_3).bind fun t281 => ((r14_Same.f k t281 l1_3).bind fun t284 => (some t284))) else (some false)) else (some false)
theorem l14_same.mono : ∀ a0 a1 a2 a3 a4 a5 a6 a7 k, LeO (l14_same.f k a0 a1 a2 a3 a4 a5 a6 a7) (l14_same.f (k + 1) a0 a1 a2 a3 a4 a5 a6 a7) := by
 intro a0 a1 a2 a3 a4 a5 a6 a7 k
 unfold l14_same.f
 repeat' first
   | (with_reducible exact l14_Refs.mono _ _)
   | (with_reducible exact r14_Same.mono _ _ _)
   | (with_reducible exact LeO.refl _)
   | (with_reducible exact LeO.none _)
   | (with_reducible refine LeO.ite ?_ ?_)
   | (with_reducible refine LeO.bind ?_ (fun _ => ?_))
def l14_same.T1 : Bool × List (List Nat × List Nat) := (true, [([], []), ([0], [0]), ([], []), ([2], [2]), ([1, 3], [1, 3]), ([4], [4]), ([5], [5]), ([6, 5], [5, 6]), ([5], [5]), ([8, 5], [5, 8]), ([7, 9, 5], [5, 7, 9]), ([5, 10], [5, 10]), ([11, 5], [11]), ([12], [12]), ([13, 12], [12, 13]), ([14, 12, 12], [12, 14]), ([12], [12]), ([16, 12], [12, 16]), ([15, 17, 15, 12], [12, 15, 17]), ([12, 18], [12, 18]), ([19, 18, 0, 1, 2, 3, 4, 5, 6, 7, 8, 9, 10, 11, 12, 13, 14, 15, 16, 17, 18, 19], [19])])
def l14_same.B1 : List Nat := [0, 1, 0, 4, 15, 31, 63, 127, 63, 319, 1023, 2047, 4095, 8191, 16383, 32767, 8191, 73727, 262143, 524287, 1048575]
theorem l14_same.tab1 : rtab .any (opsOf Try.f13 1) = l14_same.T1 := by kernel_rfl
theorem l14_same.bits1 : waitsOk l14_same.T1.2 l14_same.B1 = true := by kernel_rfl
set_option maxHeartbeats 8000000 in
set_option maxRecDepth 100000 in
theorem l14_same.calls (k : Nat) (af : Int) (ag : Int) (aj : Int) (ap : Option Addr) (aq : Nat) (ak : List (S62)) (ah : Int) (ai : Int) (an : Int) (ar : Option Addr) (au : Nat) (ao : List (S60)) (r : Bool) (w : World) (aA : Kd.C k62 w ap ak.length ak) (aB : ak.length ≤ aq) (aC : Kd.C k60 w ar ao.length ao) (aD : ao.length ≤ au) (h : l14_same.f k af ag aj ak ah ai an ao = some r) :
  Calls Try.prog 13 #[.agg #[.int .u64 af, .int .u64 ag, .int .i64 aj, .slice ap ak.length aq], .agg #[.int .u64 ah, .int .u64 ai, .int .i64 an, .slice ar ao.length au]] w fun e w' => e = .returned (.bool r) ∧ Below w.heap.size w w' := by
 have hu27 := Try.underlying27;have hu30 := Try.underlying30;have hu24 := Try.underlying24;have aJ := am aA;have aK := am aB;clear aA aB;have aL := am aC;have aM := am aD;clear aC aD;have HB := am (Below.refl w.heap.size w);have H : (if (af == ah && (ag == ai)) = true then (if aj = an then ((l14_Refs.f k ak).bind fun ax => ((r14_Same.f k ax ao).bind fun az => (some az))) else (some false)) else (some false)) = some r := h;clear h
 by_cases c3 : (af == ah && (ag == ai)) = true
 rotate_left
 ·rw [if_neg c3] at H
  have aQ : (af == ah && (ag == ai)) = false := by simpa using c3
  (try (have aR : decide (af = ah && (ag == ai)) = false := by simpa using c3))
  (try (have aS : (af == ah && (ag == ai)) = false := by simpa using c3))
  (try (have aZ : ¬ (af = ah && (ag == ai)) := by simpa using c3))
  clear c3;obtain rfl := Option.some.inj H
  go_enter Try.func13, Try.ntmps13
  try go_wp2_with (first | ((with_reducible refine gate_dst (N := 2) rfl ?_); refine be 2 #[.int .u64 af, .int .u64 ag, .int .i64 aj, .slice ap ak.length aq] 27 ?_; intro ad hg a1 hbox hb; have aa := am (hbox); have aE := gq hg HB; have aF := gq hg HB; replace HB := lb HB hb; clear hb hbox hg) | ((with_reducible refine gate_dst (N := 3) rfl ?_); refine be 3 #[.int .u64 ah, .int .u64 ai, .int .i64 an, .slice ar ao.length au] 30 ?_; intro ae hg aX hbox hb; have ac := am (hbox); have aG := gq hg HB; have aH := gq hg HB; replace HB := lb HB hb; obtain ⟨av, aw, -, -⟩ := pm hg aa; replace aa := kb aa hb; clear hb hbox hg))
  replace aa := am (blk_drew aa.out);replace ac := am (blk_drew ac.out);replace HB := am (below_drew1 HB.out)
  refine start_ (n := 21) (S := fun w' => w'.cell? ⟨ad, 0, none⟩ = some (.int .u64 af) ∧ w'.cell? ⟨ad, 1, none⟩ = some (.int .u64 ag) ∧ w'.cell? ⟨ad, 2, none⟩ = some (.int .i64 aj) ∧ w'.cell? ⟨ad, 3, none⟩ = some (.slice ap ak.length aq) ∧ w'.cell? ⟨ae, 0, none⟩ = some (.int .u64 ah) ∧ w'.cell? ⟨ae, 1, none⟩ = some (.int .u64 ai) ∧ w'.cell? ⟨ae, 2, none⟩ = some (.int .i64 an) ∧ w'.cell? ⟨ae, 3, none⟩ = some (.slice ar ao.length au)) (ds := []) #[false, false, false, false, false, false, false, false, false, false, false, false, false, false, false, false, false, false, false, false, false] (by kernel_rfl) rfl rfl ⟨ce aa 0, ce aa 1, ce aa 2, ce aa 3, ce ac 0, ce ac 1, ce ac 2, ce ac 3⟩ (fun hHeld => ?_); refine with_tabW l14_same.tab1 l14_same.bits1 (fun HT_ HW_ => ?_)
  generalize aX.drew = a2 at aa ac HB hHeld ⊢
  refine pu 0 ?_
  refine pu 2 ?_
  refine ta 1 hHeld ?_
  refine ta 3 hHeld ?_
  refine pu 4 ?_
  refine pu 5 ?_
  refine po 6 ?_
  refine po 7 ?_
  refine po 8 ?_
  refine po 9 ?_
  refine po 10 ?_
  refine pu 11 ?_
  refine pu 12 ?_
  refine po 13 ?_
  refine po 14 ?_
  refine po 15 ?_
  refine po 16 ?_
  refine po 17 ?_
  refine po 18 ?_
  refine pu 19 ?_
  refine pu 20 ?_
  refine done_ (done_of HT_.out (by kernel_rfl)) ?_
  try go_wp2
  go_ret
  exact ⟨by first | rfl | (simp [errW_none, errW_some] <;> rfl) | (simp [*, errW_none, errW_some] <;> rfl), pb HB⟩
 rw [if_pos c3] at H;have aQ : (af == ah && (ag == ai)) = true := c3
 (try (have aR : decide (af = ah && (ag == ai)) = true := by simpa using c3))
 (try (have aS : (af == ah && (ag == ai)) = true := by simpa using c3))
 clear c3
 by_cases c4 : aj = an
 rotate_left
 ·rw [if_neg c4] at H;have aT : (aj == an) = false := beq_eq_false_iff_ne.mpr c4;have aU : (aj != an) = true := bne_iff_ne.mpr c4;obtain rfl := Option.some.inj H
  go_enter Try.func13, Try.ntmps13
  try go_wp2_with (first | ((with_reducible refine gate_dst (N := 2) rfl ?_); refine be 2 #[.int .u64 af, .int .u64 ag, .int .i64 aj, .slice ap ak.length aq] 27 ?_; intro ad hg a3 hbox hb; have aa := am (hbox); have aE := gq hg HB; have aF := gq hg HB; replace HB := lb HB hb; clear hb hbox hg) | ((with_reducible refine gate_dst (N := 3) rfl ?_); refine be 3 #[.int .u64 ah, .int .u64 ai, .int .i64 an, .slice ar ao.length au] 30 ?_; intro ae hg aY hbox hb; have ac := am (hbox); have aG := gq hg HB; have aH := gq hg HB; replace HB := lb HB hb; obtain ⟨av, aw, -, -⟩ := pm hg aa; replace aa := kb aa hb; clear hb hbox hg))
  replace aa := am (blk_drew aa.out);replace ac := am (blk_drew ac.out);replace HB := am (below_drew1 HB.out)
  refine start_ (n := 21) (S := fun w' => w'.cell? ⟨ad, 0, none⟩ = some (.int .u64 af) ∧ w'.cell? ⟨ad, 1, none⟩ = some (.int .u64 ag) ∧ w'.cell? ⟨ad, 2, none⟩ = some (.int .i64 aj) ∧ w'.cell? ⟨ad, 3, none⟩ = some (.slice ap ak.length aq) ∧ w'.cell? ⟨ae, 0, none⟩ = some (.int .u64 ah) ∧ w'.cell? ⟨ae, 1, none⟩ = some (.int .u64 ai) ∧ w'.cell? ⟨ae, 2, none⟩ = some (.int .i64 an) ∧ w'.cell? ⟨ae, 3, none⟩ = some (.slice ar ao.length au)) (ds := []) #[false, false, false, false, false, false, false, false, false, false, false, false, false, false, false, false, false, false, false, false, false] (by kernel_rfl) rfl rfl ⟨ce aa 0, ce aa 1, ce aa 2, ce aa 3, ce ac 0, ce ac 1, ce ac 2, ce ac 3⟩ (fun hHeld => ?_); refine with_tabW l14_same.tab1 l14_same.bits1 (fun HT_ HW_ => ?_)
  generalize aY.drew = a4 at aa ac HB hHeld ⊢
  refine pu 0 ?_
  refine pu 2 ?_
  refine ta 1 hHeld ?_
  refine ta 3 hHeld ?_
  refine pu 4 ?_
  refine pu 5 ?_
  refine pu 6 ?_
  refine pu 8 ?_
  refine ta 7 hHeld ?_
  refine ta 9 hHeld ?_
  refine pu 10 ?_
  refine pu 11 ?_
  refine pu 12 ?_
  refine po 13 ?_
  refine po 14 ?_
  refine po 15 ?_
  refine po 16 ?_
  refine po 17 ?_
  refine po 18 ?_
  refine pu 19 ?_
  refine pu 20 ?_
  refine done_ (done_of HT_.out (by kernel_rfl)) ?_
  try go_wp2
  go_ret
  exact ⟨by first | rfl | (simp [errW_none, errW_some] <;> rfl) | (simp [*, errW_none, errW_some] <;> rfl), pb HB⟩
 rw [if_pos c4] at H;have aT : (aj == an) = true := beq_iff_eq.mpr c4;have aU : (aj != an) = false := bne_eq_false_iff_eq.mpr c4;clear c4;replace H := Option.bind_eq_some_iff.mp H;obtain ⟨ax, aN, H⟩ := H
 try dsimp only at H
 have A5 := am aN;clear aN;replace H := Option.bind_eq_some_iff.mp H;obtain ⟨az, aO, H⟩ := H
 try dsimp only at H
 have A6 := am aO;clear aO;obtain rfl := Option.some.inj H
 go_enter Try.func13, Try.ntmps13
 try go_wp2_with (first | ((with_reducible refine gate_dst (N := 2) rfl ?_); refine be 2 #[.int .u64 af, .int .u64 ag, .int .i64 aj, .slice ap ak.length aq] 27 ?_; intro ad hg w7 hbox hb; have aa := am (hbox); have aE := gq hg HB; have aF := gq hg HB; replace HB := lb HB hb; clear hb hbox hg) | ((with_reducible refine gate_dst (N := 3) rfl ?_); refine be 3 #[.int .u64 ah, .int .u64 ai, .int .i64 an, .slice ar ao.length au] 30 ?_; intro ae hg w8 hbox hb; have ac := am (hbox); have aG := gq hg HB; have aH := gq hg HB; replace HB := lb HB hb; obtain ⟨av, aw, -, -⟩ := pm hg aa; replace aa := kb aa hb; clear hb hbox hg))
 replace aa := am (blk_drew aa.out);replace ac := am (blk_drew ac.out);replace HB := am (below_drew1 HB.out)
 refine start_ (n := 21) (S := fun w' => w'.cell? ⟨ad, 0, none⟩ = some (.int .u64 af) ∧ w'.cell? ⟨ad, 1, none⟩ = some (.int .u64 ag) ∧ w'.cell? ⟨ad, 2, none⟩ = some (.int .i64 aj) ∧ w'.cell? ⟨ad, 3, none⟩ = some (.slice ap ak.length aq) ∧ w'.cell? ⟨ae, 0, none⟩ = some (.int .u64 ah) ∧ w'.cell? ⟨ae, 1, none⟩ = some (.int .u64 ai) ∧ w'.cell? ⟨ae, 2, none⟩ = some (.int .i64 an) ∧ w'.cell? ⟨ae, 3, none⟩ = some (.slice ar ao.length au)) (ds := []) #[false, false, false, false, false, false, false, false, false, false, false, false, false, false, false, false, false, false, false, false, false] (by kernel_rfl) rfl rfl ⟨ce aa 0, ce aa 1, ce aa 2, ce aa 3, ce ac 0, ce ac 1, ce ac 2, ce ac 3⟩ (fun hHeld => ?_); refine with_tabW l14_same.tab1 l14_same.bits1 (fun HT_ HW_ => ?_)
 generalize w8.drew = w9 at aa ac HB hHeld ⊢
 refine pu 0 ?_
 refine pu 2 ?_
 refine ta 1 hHeld ?_
 refine ta 3 hHeld ?_
 refine pu 4 ?_
 refine pu 5 ?_
 refine pu 6 ?_
 refine pu 8 ?_
 refine ta 7 hHeld ?_
 refine ta 9 hHeld ?_
 refine pu 10 ?_
 refine pu 11 ?_
 refine pu 12 ?_
 refine pu 13 ?_
 refine pu 16 ?_
 refine ta 14 hHeld ?_
 refine ta 17 hHeld ?_
 refine on1 15 (fun K hK => ?_)
 refine gs Try.func26 #[.slice ap ak.length aq] ?_
 with_reducible refine (l14_Refs.calls k _ _ ak ax _ ?side1 ?side2 A5.out).mono ?_
 (case side1 => repeat (first | exact (Kd.C_below aJ.out HB.out) | (with_reducible refine Kd.C_alloc ?_ _) | (with_reducible refine Kd.C_drewN ?_ _) | (with_reducible refine Kd.C_drew ?_)))
 (case side2 => exact aK.out)
 rintro e a5 ⟨a0, rfl, aP, hb⟩
 refine ⟨_, rfl, ?_⟩
 have ay := am (Kd.R_lower aP (below_size (pb HB)));replace aa := kb aa hb;replace ac := kb ac hb;replace HB := lb HB hb
 (try clear hb)
 (try clear hb2)
 (try clear hk)
 (try clear hi)
 (try clear aP)
 obtain ⟨aV, aW, aI⟩ := Kd.R_slice ay.out
 (first | subst aI | (injection aI with f1_ f2_ f3_; have f4_ := f1_.symm; have f5_ := f3_.symm; clear f1_ f2_ f3_; subst f4_; subst f5_))
 refine hK.out _ _ ⟨ce aa 0, ce aa 1, ce aa 2, ce aa 3, ce ac 0, ce ac 1, ce ac 2, ce ac 3⟩ (fun hHeld => ?_)
 clear hK K
 refine nm ?_
 refine on1 18 (fun K hK => ?_)
 refine gs Try.func29 #[.slice aV ax.length aW, .slice ar ao.length au] ?_
 with_reducible refine (r14_Same.calls k _ _ ax _ _ ao az _ ?side1 ?side2 ?side3 ?side4 A6.out).mono ?_
 (case side1 => repeat (first | exact (Kd.R_reads' ay.out).2.2 | (with_reducible refine Kd.C_alloc ?_ _) | (with_reducible refine Kd.C_drewN ?_ _) | (with_reducible refine Kd.C_drew ?_)))
 (case side2 => exact (Kd.R_reads' ay.out).2.1)
 (case side3 => repeat (first | exact (Kd.C_below aL.out HB.out) | (with_reducible refine Kd.C_alloc ?_ _) | (with_reducible refine Kd.C_drewN ?_ _) | (with_reducible refine Kd.C_drew ?_)))
 (case side4 => exact aM.out)
 rintro e w' ⟨rfl, ⟨nd, rfl⟩⟩
 refine ⟨_, rfl, ?_⟩
 refine hK.out _ _ ⟨ce aa 0, ce aa 1, ce aa 2, ce aa 3, ce ac 0, ce ac 1, ce ac 2, ce ac 3⟩ (fun hHeld => ?_)
 clear hK K
 refine nm ?_
 refine pu 19 ?_
 refine pu 20 ?_
 refine done_ (done_of HT_.out (by kernel_rfl)) ?_
 try go_wp2
 go_ret
 exact ⟨by first | rfl | (simp [errW_none, errW_some] <;> rfl) | (simp [*, errW_none, errW_some] <;> rfl), pb HB⟩
def r05_left.f (a0 : Int) (a1 : Int) : Option (Int) := if 0 ≤ a1 then (if 0 ≤ (IntKind.u64.wrap (64 - a1)) then (some (Go.bits .or .u64 (shl .u64 a0 a1) (shr .u64 a0 (IntKind.u64.wrap (64 - a1))))) else (none)) else (none)
set_option maxHeartbeats 8000000 in
set_option maxRecDepth 100000 in
theorem r05_left.calls (a0 : Int) (a1 : Int) (r : Int) (w : World) (h : r05_left.f a0 a1 = some r) :
  Calls Try.prog 48 #[.int .u64 a0, .int .u64 a1] w fun e w' => e = .returned (.int .u64 r) ∧ Below w.heap.size w w' := by
 have HB := am (Below.refl w.heap.size w);have H : (if 0 ≤ a1 then (if 0 ≤ (IntKind.u64.wrap (64 - a1)) then (some (Go.bits .or .u64 (shl .u64 a0 a1) (shr .u64 a0 (IntKind.u64.wrap (64 - a1))))) else (none)) else (none)) = some r := h;clear h
 by_cases c3 : 0 ≤ a1
 rotate_left
 ·rw [if_neg c3] at H;exact absurd H (by simp)
 rw [if_pos c3] at H;have ae := eq_true c3;have af : decide (0 ≤ a1) = true := decide_eq_true c3;clear c3;obtain ⟨ac, hji4⟩ : ∃ j_ : Int, (shl .u64 a0 a1) = j_ := ⟨_, rfl⟩
 replace H : (if 0 ≤ (IntKind.u64.wrap (64 - a1)) then (some (Go.bits .or .u64 (ac) (shr .u64 a0 (IntKind.u64.wrap (64 - a1))))) else (none)) = some r := by first | (rw [hji4] at H; exact H) | (simp only [hji4] at H ⊢; exact H)
 have hji4_ : (IntKind.u64.wrap (a0 * 2 ^ min a1.toNat 64)) = ac := hji4;have hji4z : a1 ≤ 64 → (IntKind.u64.wrap (a0 * 2 ^ a1.toNat)) = ac := shl_small hji4;obtain ⟨aa, hji5⟩ : ∃ j_ : Int, (IntKind.u64.wrap (64 - a1)) = j_ := ⟨_, rfl⟩
 replace H : (if 0 ≤ (aa) then (some (Go.bits .or .u64 (ac) (shr .u64 a0 (aa)))) else (none)) = some r := by first | (rw [hji5] at H; exact H) | (simp only [hji5] at H ⊢; exact H)
 by_cases c6 : 0 ≤ (aa)
 rotate_left
 ·rw [if_neg c6] at H;exact absurd H (by simp)
 rw [if_pos c6] at H;have ag := eq_true c6;have ah : decide (0 ≤ (aa)) = true := decide_eq_true c6;clear c6;obtain ⟨ad, hji7⟩ : ∃ j_ : Int, (shr .u64 a0 (aa)) = j_ := ⟨_, rfl⟩
 replace H : (some (Go.bits .or .u64 (ac) (ad))) = some r := by first | (rw [hji7] at H; exact H) | (simp only [hji7] at H ⊢; exact H)
 have hji7_ : (a0 / 2 ^ min (aa).toNat 64) = ad := hji7;have hji7z : (aa) ≤ 64 → (a0 / 2 ^ (aa).toNat) = ad := shr_small hji7;obtain rfl := Option.some.inj H
 go_enter Try.func48, Try.ntmps48
 go_wp2
 go_ret
 exact ⟨by first | rfl | (simp [errW_none, errW_some] <;> rfl) | (simp only [← hji4, ← hji5, ← hji7]; first | rfl | (simp [errW_none, errW_some] <;> rfl)) | (simp [*, errW_none, errW_some] <;> rfl), pb HB⟩
end Go.Proofs.Ytmfffbafldbihaa.H
