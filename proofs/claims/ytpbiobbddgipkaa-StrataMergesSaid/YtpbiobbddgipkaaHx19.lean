import Derived.Test.YtpbiobbddgipkaaHx0
namespace Go.Proofs.Ytpbiobbddgipkaa.H
open Go.RowKit Go.Proofs.YtpbiobbddgipkaaW.PrintWords Go.Proofs.YtpbiobbddgipkaaW.PrintLast Go.Proofs.YtpbiobbddgipkaaW.PrintMore Go.Proofs.YtpbiobbddgipkaaW.Sq
attribute [local go_sem] max2_int min2_int max_two min_two max_three min_three max_four min_four
set_option linter.unusedVariables false
set_option linter.unusedSimpArgs false
set_option maxHeartbeats 400000000
set_option maxRecDepth 100000

def l14_Refs.l0 : Nat → List (S68) → List (S87) → Int → Int → Option ((List (S68)))
 | 0, _, _, _, _ => none
 | k + 1, a, b, c, d => if d < c then (if 0 ≤ d then (if d < (b.length : Int) then (if a.length < 3518437208883 then (l14_Refs.l0 k (a ++ [(⟨(rd_T87 b d).f0, (rd_T87 b d).f1, (⟨(rd_T87 b d).f2.f0, (rd_T87 b d).f2.f1⟩ : S65)⟩ : S68)]) b c (wrap64 (d + 1))) else (none)) else (none)) else (none)) else (some a)
def l14_Refs.f (k : Nat) (a : List (S87)) : Option ((List (S68))) := l14_Refs.l0 k ([] : List (S68)) a (a.length : Int) 0
theorem l14_Refs.mono_l : ∀ k, (∀ y0 y1 y2 y3, LeO (l14_Refs.l0 k y0 y1 y2 y3) (l14_Refs.l0 (k + 1) y0 y1 y2 y3))
 | 0 => fun _ _ _ _ r h => by simp [l14_Refs.l0] at h
 | k + 1 => by
  have ih0 := l14_Refs.mono_l k
  ·intro y0 y1 y2 y3
   unfold l14_Refs.l0
   with_reducible repeat' first | apply ih0 | exact LeO.refl _ | exact LeO.none _ | refine LeO.ite ?_ ?_ | refine LeO.bind ?_ (fun _ => ?_)
theorem l14_Refs.mono : ∀ a0 k, LeO (l14_Refs.f k a0) (l14_Refs.f (k + 1) a0) := by
 intro a0 k;have ih0 := l14_Refs.mono_l k
 unfold l14_Refs.f
 with_reducible repeat' first | apply ih0 | exact LeO.refl _ | exact LeO.none _ | refine LeO.ite ?_ ?_ | refine LeO.bind ?_ (fun _ => ?_)
theorem l14_Refs.calls (k : Nat) (A0 : Option Addr) (c0 : Nat) (l0 : List (S87)) (r : List (S68)) (w : World) (ap : Kd.C k87 w A0 l0.length l0) (aq : l0.length ≤ c0) (h : l14_Refs.f k l0 = some r) :
  Calls Try.prog 16 #[.slice A0 l0.length c0] w fun e w' => ∃ ar : Value, e = .returned (ar) ∧ Kd.R k68 68 w' w.heap.size (fun _ => True) ar r ∧ Below w.heap.size w w' := by
 have hu87 := Try.underlying87;have ax := am ap;have aG := am aq;clear ap aq;have HB := am (Below.refl w.heap.size w);unfold l14_Refs.f at h;have H := h;clear h;have H' := am H;clear H
 go_enter Try.func16, Try.ntmps16;go_wp2
 go_loopg [3, 8] k (fun kq v3 v8 w' => ∃ (ad : List (S68)) (aa : Int), v8 = .int .i64 aa ∧ Aside0 (l14_Refs.l0 kq ad l0 (l0.length : Int) aa = some r) ∧ Aside0 (kq ≤ k) ∧ Aside0 (Kd.R k68 68 w' w.heap.size (fun _ => True) v3 ad) ∧ Aside0 (Below w.heap.size w w'))
 case atStart => exact ⟨(([] : List (S68))), (0), eR, H', ⟨Nat.le_refl _⟩, ⟨by first | exact Kd.R_nil _ _ _ _ _ | exact Kd.N_nil _ _ _ _ _ | exact Kd.V_nil _ _ _ _ _ | exact Kd.Q_nil _ _ _ _ _ | exact Kd.S_nil _ _ _ _ _⟩, ⟨pb HB⟩⟩
 case round =>
  clear H';obtain ⟨ad, aa, rfl, HA, HK1, ae, HB⟩ := hrel
  cases gk with
  | zero => exact absurd HA.out (by simp [l14_Refs.l0])
  | succ k1 =>
   have H := HA.out;clear HA;simp only [l14_Refs.l0] at H
   by_cases c2 : aa < (l0.length : Int)
   ·rw [if_pos c2] at H;have au : decide (aa < (l0.length : Int)) = true := decide_eq_true c2;clear c2
    by_cases c3 : 0 ≤ aa
    ·rw [if_pos c3] at H;have aC := decide_eq_true c3;clear c3
     by_cases c4 : aa < (l0.length : Int)
     ·rw [if_pos c4] at H;have aD := decide_eq_true c4;clear c4
      by_cases c5 : ad.length < 3518437208883
      ·rw [if_pos c5] at H;have LMc5 := am c5;clear c5;obtain ⟨av, hy373⟩ : ∃ y_ : List (S68), y_ = (ad ++ [(⟨(rd_T87 l0 aa).f0, (rd_T87 l0 aa).f1, (⟨(rd_T87 l0 aa).f2.f0, (rd_T87 l0 aa).f2.f1⟩ : S65)⟩ : S68)]) := ⟨_, rfl⟩;rw [← hy373] at H;(try rw [Option.bind_some] at H)
       have Ny373 := am hy373;clear hy373;have H' := am H;clear H;have aj : 0 ≤ (aa : Int) := od;have ak : aa < (l0.length : Int) := od;obtain ⟨az, aw, af, ag, ah, ai⟩ := at_T87 ax.out aa aj ak;cases aw;replace af := hQ HB af;replace ag := hQ HB ag;replace ah := hQ HB ah;replace ai := hQ HB ai;replace aj := eq_true aj;replace ak := eq_true ak
       go_wp2_with (first | (refine bE 5 #[.string (⟨#[]⟩ : ByteArray), .int .u64 0, .int .u64 0, .int .u64 0] 87 ?_; intro an hg w6 ac hb; replace ae := rb ae hb; have aA := gq hg HB; replace HB := lb HB hb; clear hb hg; have ay := g4 ac) | ((with_reducible refine gate_builtin (b := .append) (xs := #[.tmp 12, .tmp 14]) rfl ?_); at_builtin; refine Kd.R_append k68 (w0 := w) w.heap.size rfl (.tmp 12) (.tmp 14) 49 68 (.agg #[(.string ⟨#[]⟩), (.int .u64 0), (.int .u64 0), (.int .u64 0)]) 40 rfl Try.underlying49 info68 rfl (by decide) (by omega) u3 ad (⟨(rd_T87 l0 aa).f0, (rd_T87 l0 aa).f1, (⟨(rd_T87 l0 aa).f2.f0, (rd_T87 l0 aa).f2.f1⟩ : S65)⟩ : S68) [.string ((rd_T87 l0 aa).f0), .int .u64 ((rd_T87 l0 aa).f1), .int .u64 ((rd_T87 l0 aa).f2.f0), .int .u64 ((rd_T87 l0 aa).f2.f1)] (fun _ => True) (fun _ => False) rfl (by first | (go_simp; done) | (go_simp; rfl)) ?aP (fun _ hk => hk.elim) ?aF ?aO ?aB ?aS ?aL ?_; (case aP => exact k68_mkM _ _ _ (⟨(rd_T87 l0 aa).f0, (rd_T87 l0 aa).f1, (⟨(rd_T87 l0 aa).f2.f0, (rd_T87 l0 aa).f2.f1⟩ : S65)⟩ : S68)); (case aB => exact (pb HB)); (case aF => exact (fun _ _ => trivial)); (case aO => exact (pr ((rf (f4 rfl) ae ac).out))); (case aS => exact (below_size (pb HB))); (case aL => have := LMc5.out; omega); intro aE w8 ho hb hg hat; rw [← Ny373.out] at ho; replace ac := am (blk_grown (g := an) (o := .cells #[.string ((rd_T87 l0 aa).f0), .int .u64 ((rd_T87 l0 aa).f1), .int .u64 ((rd_T87 l0 aa).f2.f0), .int .u64 ((rd_T87 l0 aa).f2.f1)] 87 (0, 0)) ((s4 rfl ac).out) hg (Kd.R_ne ae.out ac.out (by decide))); replace HB := am (hb); have ao := am (ho); clear ae ho hb hg hat))
       go_roundg k1
       case measure => have := HK1.out; omega
       case rel => exact ⟨(av), (wrap64 (aa + 1)), eR, H', ⟨by have := HK1.out; omega⟩, ⟨pr ao.out⟩, ⟨pb HB⟩⟩
      ·exact (na c5 H).elim
     ·exact (na c4 H).elim
    ·exact (na c3 H).elim
   ·rw [if_neg c2] at H;have au : decide (aa < (l0.length : Int)) = false := decide_eq_false c2;clear c2;obtain rfl := Option.some.inj H;go_wp2;go_ret;exact ⟨_, ey (h := ⟨by refine pr ?_; exact ae.out, pb HB⟩)⟩
def l21_sample.f (k : Nat) (a b c : Int) (d : List (S87)) : Option (Int × Int × Int × (List (S68))) := (l14_Refs.f k d).bind fun e => (some (a, b, c, e))
theorem l21_sample.mono : ∀ a0 a1 a2 a3 k, LeO (l21_sample.f k a0 a1 a2 a3) (l21_sample.f (k + 1) a0 a1 a2 a3) := by
 intro a0 a1 a2 a3 k
 unfold l21_sample.f
 with_reducible repeat' first | apply l14_Refs.mono | exact LeO.refl _ | exact LeO.none _ | refine LeO.ite ?_ ?_ | refine LeO.bind ?_ (fun _ => ?_)
def l21_sample.T1 : DT := (true, [dz, dd [0], dz, dd [2], dz, dd [4], dd [5], dd [1, 3, 6], ([7, 6, 0, 1, 2, 3, 4, 5, 6, 7], [7])])
def l21_sample.B1 : List Nat := [0, 1, 0, 4, 0, 16, 48, 127, 255]
theorem l21_sample.tab1 : rtab .any (opsOf Try.f34 1) = l21_sample.T1 := by kernel_rfl
theorem l21_sample.bits1 : waitsOk l21_sample.T1.2 l21_sample.B1 = true := by kernel_rfl
theorem l21_sample.calls (k : Nat) (ai aj ak : Int) (an : Option Addr) (ao : Nat) (af : List (S87)) (r1 r2 r3 : Int) (r4 : List (S68)) (w : World) (ap : Kd.C k87 w an af.length af) (aq : af.length ≤ ao) (h : l21_sample.f k ai aj ak af = some (r1, r2, r3, r4)) :
  Calls Try.prog 34 #[.agg #[.int .u64 ai, .int .u64 aj, .int .i64 ak, .slice an af.length ao]] w fun e w' => ∃ ax : Value, e = .returned (.agg #[.int .u64 r1, .int .u64 r2, .int .i64 r3, ax]) ∧ Kd.R k68 68 w' w.heap.size (fun _ => True) ax r4 ∧ Below w.heap.size w w' := by
 have hu40 := Try.underlying40;have hu60 := Try.underlying60;have hu24 := Try.underlying24;have av := am ap;have aw := am aq;clear ap aq;have HB := am (Below.refl w.heap.size w);unfold l21_sample.f at h;have H := h;clear h;obtain ⟨au, A2, H⟩ := ob H;(try dsimp only at H)
 obtain ⟨rfl, rfl, rfl, rfl⟩ := J4 H;go_enter Try.func34, Try.ntmps34
 try go_wp2_with (first | (refine bE 1 #[.int .u64 ai, .int .u64 aj, .int .i64 ak, .slice an af.length ao] 40 ?_; intro ah hg w3 ad hb; have aG := gq hg HB; replace HB := lb HB hb; clear hb hg) | (refine bE 2 #[.int .u64 0, .int .u64 0, .int .i64 0, .slice none 0 0] 60 ?_; intro ag hg w4 ac hb; have aH := gq hg HB; replace HB := lb HB hb; obtain ⟨aa, ae, -, -⟩ := pm hg ad; replace ad := kb ad hb; clear hb hg))
 replace ad := am (blk_drew ad.out);replace ac := am (blk_drew ac.out);replace HB := am (below_drew1 HB.out);refine start_ (n := 9) (S := fun w' => ci w' ah 0 .u64 ai ∧ ci w' ah 1 .u64 aj ∧ ci w' ah 2 .i64 ak ∧ w'.cell? ⟨ah, 3, none⟩ = some (.slice an af.length ao)) (ds := []) #[bF, bF, bF, bF, bF, bF, bF, bF, bF] (by kernel_rfl) rfl rfl (Q4 ad) (fun hh => ?_); refine with_tabW l21_sample.tab1 l21_sample.bits1 (fun HT_ HW_ => ?_);generalize w4.drew = w5 at ad ac HB hh ⊢;refine P2 0 2 ?_;refine pu 4 ?_;refine ta 1 hh ?_;refine ta 3 hh ?_;refine ta 5 hh ?_;refine on1 6 (fun K hK => ?_);refine gs Try.func16 #[.slice an af.length ao] ?_;(with_reducible refine (l14_Refs.calls k _ _ af au _ ?side1 ?side2 A2.out).mono ?_);(case side1 => exact pc (Kd.C_below av.out HB.out));(case side2 => exact aw.out);rintro e w6 ⟨aK, rfl, ay, hb⟩;refine ⟨_, rfl, ?_⟩;have ar := am (Kd.R_lower ay (below_size (pb HB)));replace ad := kb ad hb;replace ac := kb ac hb;replace HB := lb HB hb;clear hb ay;obtain ⟨aC, aD, az⟩ := Kd.R_slice ar.out;(first | subst az | (injection az with f1_ f2_ f3_; have f4_ := f1_.symm; have f5_ := f3_.symm; clear f1_ f2_ f3_; subst f4_; subst f5_));refine hK.out _ _ (Q4 ad) (fun hh => ?_);clear hK K;refine nm ?_;refine pu 7 ?_;refine one_ (i := 8) (N := none) #[bT, bT, bT, bT, bT, bT, bT, bT, bT] rfl rfl (one_of HT_.out (by kernel_rfl)) (by decide) (fun K hK => ?_);have aP : w6.cell? ⟨ag, 0, none⟩ = some (.int .u64 0) := ce ac 0;have aL := blk_frozen ac.out 0;have aE := aa.out;have hms8_0 := ae.out;have aQ : w6.cell? ⟨ag, 1, none⟩ = some (.int .u64 0) := ce ac 1;have aM := blk_frozen ac.out 1;have aF := aa.out;have hms9_0 := ae.out;have aN : w6.cell? ⟨ag, 2, none⟩ = some (.int .i64 0) := ce ac 2;have aI := blk_frozen ac.out 2;have aA := aa.out;have hms10_0 := ae.out;have aO : w6.cell? ⟨ag, 3, none⟩ = some (.slice none 0 0) := ce ac 3;have aJ := blk_frozen ac.out 3;have aB := aa.out;have hms11_0 := ae.out;refine skip_ (w1 := ?_) (by rfl) rfl ?_ ?_;rotate_left
 ·go_simp
  rfl
 refine hK.out _ _ ⟨(q4 aa.out hh.1), (q4 aa.out hh.2.1), (q4 aa.out hh.2.2.1), (q4 aa.out hh.2.2.2)⟩ (fun hh => ?_);clear hK K;refine done_ (done_of HT_.out (by kernel_rfl)) ?_
 try go_wp2
 refine bodyPost_ret (results_cell_row rfl _ _ ag 60 #[.int .u64 ai, .int .u64 aj, .int .i64 ak, .slice aC au.length aD] (0, 0) _ rfl ((s4 rfl ac).out) Try.underlying60 rfl (by kernel_rfl)) rfl ?_;exact ⟨_, ey (h := ⟨(rf (f4 rfl) ar ac).out, pb HB⟩)⟩
def l21_Ref.l0 : Nat → List (S77) → List (S42) → Int → Int → Int → Int → Int → Int → Option (Int × Int × Int × Int × (List (S77)))
 | 0, _, _, _, _, _, _, _, _ => none
 | k + 1, b, c, d, e, g, h, i, j => if e < d then (if 0 ≤ e then (if e < (c.length : Int) then ((l21_sample.f k ((rd_T42 c e).f2.f0.f0) ((rd_T42 c e).f2.f0.f1) ((rd_T42 c e).f2.f1) ((rd_T42 c e).f2.f2)).bind fun a => (if b.length < 1954687338268 then (l21_Ref.l0 k (b ++ [(⟨(rd_T42 c e).f0, (rd_T42 c e).f1, (⟨(⟨a.1, a.2.1⟩ : S24), a.2.2.1, a.2.2.2⟩ : S60)⟩ : S77)]) c d (wrap64 (e + 1)) g h i j) else (none))) else (none)) else (none)) else (some (g, h, i, j, b))
def l21_Ref.f (k : Nat) (a b c d : Int) (e : List (S42)) : Option (Int × Int × Int × Int × (List (S77))) := l21_Ref.l0 k ([] : List (S77)) e (e.length : Int) 0 a b c d
theorem l21_Ref.mono_l : ∀ k, (∀ y0 y1 y2 y3 y4 y5 y6 y7, LeO (l21_Ref.l0 k y0 y1 y2 y3 y4 y5 y6 y7) (l21_Ref.l0 (k + 1) y0 y1 y2 y3 y4 y5 y6 y7))
 | 0 => fun _ _ _ _ _ _ _ _ r h => by simp [l21_Ref.l0] at h
 | k + 1 => by
  have ih0 := l21_Ref.mono_l k
  ·intro y0 y1 y2 y3 y4 y5 y6 y7
   unfold l21_Ref.l0
   with_reducible repeat' first | apply ih0 | apply l21_sample.mono | exact LeO.refl _ | exact LeO.none _ | refine LeO.ite ?_ ?_ | refine LeO.bind ?_ (fun _ => ?_)
theorem l21_Ref.mono : ∀ a0 a1 a2 a3 a4 k, LeO (l21_Ref.f k a0 a1 a2 a3 a4) (l21_Ref.f (k + 1) a0 a1 a2 a3 a4) := by
 intro a0 a1 a2 a3 a4 k;have ih0 := l21_Ref.mono_l k
 unfold l21_Ref.f
 with_reducible repeat' first | apply ih0 | apply l21_sample.mono | exact LeO.refl _ | exact LeO.none _ | refine LeO.ite ?_ ?_ | refine LeO.bind ?_ (fun _ => ?_)
def l21_Ref.T6 : DT := (true, [dz, dz, dd [1], dz, dd [3], dz, dd [5], dd [6], dd [2, 4, 7], dd [8], ([0, 9, 7], [0, 9]), ([10, 10, 0, 1, 2, 3, 4, 5, 6, 7, 8, 9, 10], [0, 10])])
def l21_Ref.B6 : List Nat := [0, 0, 2, 0, 8, 0, 32, 96, 254, 510, 1023, 2047]
theorem l21_Ref.tab6 : rtab .any (opsOf Try.f17 6) = l21_Ref.T6 := by kernel_rfl
theorem l21_Ref.bits6 : waitsOk l21_Ref.T6.2 l21_Ref.B6 = true := by kernel_rfl
theorem l21_Ref.calls (k : Nat) (ao ap aq ar : Int) (aR : Option Addr) (aT : Nat) (ac : List (S42)) (r1 r2 r3 r4 : Int) (r5 : List (S77)) (w : World) (a5 : Kd.C k42 w aR ac.length ac) (a6 : ac.length ≤ aT) (h : l21_Ref.f k ao ap aq ar ac = some (r1, r2, r3, r4, r5)) :
  Calls Try.prog 17 #[.agg #[.int .u64 ao, .int .u64 ap, .int .i64 aq, .int .i64 ar, .slice aR ac.length aT]] w fun e w' => ∃ bp : Value, e = .returned (.agg #[.int .u64 r1, .int .u64 r2, .int .i64 r3, .int .i64 r4, bp]) ∧ Kd.S k77 77 w' w.heap.size (fun _ => True) bp r5 ∧ Below w.heap.size w w' := by
 have hu28 := Try.underlying28;have hu54 := Try.underlying54;have hu24 := Try.underlying24;have hu42 := Try.underlying42;have hu40 := Try.underlying40;have hu77 := Try.underlying77;have bl := am a5;have bH := am a6;clear a5 a6;have HB := am (Below.refl w.heap.size w);unfold l21_Ref.f at h;have H := h;clear h;have H' := am H;clear H
 go_enter Try.func17, Try.ntmps17;go_wp2_with (first | (refine bE 1 #[.int .u64 ao, .int .u64 ap, .int .i64 aq, .int .i64 ar, .slice aR ac.length aT] 28 ?_; intro bm hg w2 ad hb; have bI := gq hg HB; replace HB := lb HB hb; clear hb hg) | (refine bE 2 #[.int .u64 0, .int .u64 0, .int .i64 0, .int .i64 0, .slice none 0 0] 54 ?_; intro aj hg w3 ae hb; have bJ := gq hg HB; replace HB := lb HB hb; obtain ⟨aU, aV, b1, b2⟩ := pm hg ad; replace ad := kb ad hb; clear hb hg; have bd := g5 ad) | (refine bE 3 #[.int .u64 0, .int .u64 0, .int .i64 0, .int .i64 0, .slice none 0 0] 54 ?_; intro a7 hg w6 ag hb; have bK := gq hg HB; replace HB := lb HB hb; obtain ⟨aw, aW, b3, b4⟩ := pm hg ad; replace ad := kb ad hb; obtain ⟨au, aX, b5, b6⟩ := pm hg ae; replace ae := kb ae hb; clear hb hg; have bg := g5 ag; have ba := g5 ad))
 go_loopg [4, 17] k (fun kq v4 bC w' => ∃ (ak : List (S77)) (aa : Int), bC = .int .i64 aa ∧ Aside0 (l21_Ref.l0 kq ak ac (ac.length : Int) aa ao ap aq ar = some (r1, r2, r3, r4, r5)) ∧ Aside0 (kq ≤ k) ∧ Aside0 (Kd.S k77 77 w' w.heap.size (fun _ => True) v4 ak) ∧ Aside0 (w'.heap[bm]? = some (.cells #[.int .u64 ao, .int .u64 ap, .int .i64 aq, .int .i64 ar, (.slice aR ac.length aT)] 28 (0, 0))) ∧ Aside0 (w'.heap[aj]? = some (.cells #[.int .u64 0, .int .u64 0, .int .i64 0, .int .i64 0, (.slice none 0 0)] 54 (0, 0))) ∧ Aside0 (w'.heap[a7]? = some (.cells #[.int .u64 ao, .int .u64 ap, .int .i64 aq, .int .i64 ar, (.slice none 0 0)] 54 (0, 0))) ∧ Aside0 (Below w.heap.size w w'))
 case atStart => exact ⟨(([] : List (S77))), (0), eR, H', ⟨Nat.le_refl _⟩, ⟨by first | exact Kd.S_nil _ _ _ _ _ | exact Kd.N_nil _ _ _ _ _ | exact Kd.V_nil _ _ _ _ _ | exact Kd.Q_nil _ _ _ _ _ | exact Kd.R_nil _ _ _ _ _⟩, ⟨(bf (f5 rfl) ad aw.out).out⟩, ⟨(bf (f5 rfl) ae au.out).out⟩, ⟨(s5 rfl ag).out⟩, ⟨pb HB⟩⟩
 case round =>
  clear H' ba bd bg;obtain ⟨ak, aa, rfl, HA, HK1, ah, ad, ae, ag, HB⟩ := hrel
  cases gk with
  | zero => exact absurd HA.out (by simp [l21_Ref.l0])
  | succ k1 =>
   have H := HA.out;clear HA;simp only [l21_Ref.l0] at H
   by_cases aE : aa < (ac.length : Int)
   ·rw [if_pos aE] at H;have bn := decide_eq_true aE;clear aE
    by_cases a8 : 0 ≤ aa
    ·rw [if_pos a8] at H;have bL := decide_eq_true a8;clear a8
     by_cases a9 : aa < (ac.length : Int)
     ·rw [if_pos a9] at H;have bM := decide_eq_true a9;clear a9;obtain ⟨⟨ay, az, aA, av⟩, bD, H⟩ := ob H;(try dsimp only at H)
      by_cases a_ : ak.length < 1954687338268
      ·rw [if_pos a_] at H;have LMc15 := am a_;clear a_;obtain ⟨bu, hy392⟩ : ∃ y_ : List (S77), y_ = (ak ++ [(⟨(rd_T42 ac aa).f0, (rd_T42 ac aa).f1, (⟨(⟨ay, az⟩ : S24), aA, av⟩ : S60)⟩ : S77)]) := ⟨_, rfl⟩;rw [← hy392] at H;(try rw [Option.bind_some] at H)
       have Ny392 := am hy392;clear hy392;have H' := am H;clear H;have a1 : 0 ≤ (aa : Int) := od;have a2 : aa < (ac.length : Int) := od;obtain ⟨bN, aC, aD, bv, aG, aH, aI, aJ, aK, aM, aN, aQ⟩ := at_T42 bl.out aa a1 a2;cases bv;replace aG := hQ HB aG;replace aH := hQ HB aH;replace aI := hQ HB aI;replace aJ := hQ HB aJ;replace aK := hQ HB aK;replace aM := hQ HB aM;have bb := am aQ;have bc := am aN;clear aQ aN;replace a1 := eq_true a1;replace a2 := eq_true a2
       try go_wp2_with (first | (refine bE 6 #[.string (⟨#[]⟩ : ByteArray), .int .u64 0, .int .u64 0, .int .u64 0, .int .i64 0, .slice none 0 0] 42 ?_; intro ai hg bG af hb; replace ah := sb ah hb; have bO := gq hg HB; replace HB := lb HB hb; obtain ⟨aY, bq, bP, bQ⟩ := pm hg ad; replace ad := kb ad hb; obtain ⟨aZ, br, bR, bS⟩ := pm hg ae; replace ae := kb ae hb; obtain ⟨a0, bs, bT, bU⟩ := pm hg ag; replace ag := kb ag hb; clear hb hg; have bz := g6 af))
       generalize an : (((((bG.setCell ⟨ai, 0, none⟩ (.string ((rd_T42 ac aa).f0))).setCell ⟨ai, 1, none⟩ (.int .u64 ((rd_T42 ac aa).f1))).setCell ⟨ai, 2, none⟩ (.int .u64 ((rd_T42 ac aa).f2.f0.f0))).setCell ⟨ai, 3, none⟩ (.int .u64 ((rd_T42 ac aa).f2.f0.f1))).setCell ⟨ai, 4, none⟩ (.int .i64 ((rd_T42 ac aa).f2.f1))).setCell ⟨ai, 5, none⟩ (.slice aC ((rd_T42 ac aa).f2.f2).length aD) = w21;replace an := an.symm;replace ah := sf (f6 an) ah af;replace ad := bf (f6 an) ad aY.out;replace ae := bf (f6 an) ae aZ.out;replace ag := bf (f6 an) ag a0.out;replace HB := lf (f6 an) HB;replace af := s6 an af;clear an;replace ah := am (Kd.S_drew ah.out);replace ad := am (blk_drew ad.out);replace ae := am (blk_drew ae.out);replace ag := am (blk_drew ag.out);replace af := am (blk_drew af.out);replace HB := am (below_drew1 HB.out);refine start_ (n := 12) (S := fun w' => w'.cell? ⟨ai, 0, none⟩ = some (.string ((rd_T42 ac aa).f0)) ∧ ci w' ai 1 .u64 ((rd_T42 ac aa).f1) ∧ ci w' ai 2 .u64 ((rd_T42 ac aa).f2.f0.f0) ∧ ci w' ai 3 .u64 ((rd_T42 ac aa).f2.f0.f1) ∧ ci w' ai 4 .i64 ((rd_T42 ac aa).f2.f1) ∧ w'.cell? ⟨ai, 5, none⟩ = some (.slice aC ((rd_T42 ac aa).f2.f2).length aD)) (ds := []) #[bF, bF, bF, bF, bF, bF, bF, bF, bF, bF, bF, bF] (by kernel_rfl) rfl rfl (Q6 af) (fun hh => ?_); refine with_tabW l21_Ref.tab6 l21_Ref.bits6 (fun HT_ HW_ => ?_);generalize w21.drew = b9 at ah ad ae ag af HB hh ⊢;refine P2 0 1 ?_;refine P2 3 5 ?_;refine ta 2 hh ?_;refine ta 4 hh ?_;refine ta 6 hh ?_;refine on1 7 (fun K hK => ?_);refine gs Try.func34 #[.agg #[.int .u64 ((rd_T42 ac aa).f2.f0.f0), .int .u64 ((rd_T42 ac aa).f2.f0.f1), .int .i64 ((rd_T42 ac aa).f2.f1), .slice aC ((rd_T42 ac aa).f2.f2).length aD]] ?_;(with_reducible refine (l21_sample.calls k1 ((rd_T42 ac aa).f2.f0.f0) ((rd_T42 ac aa).f2.f0.f1) ((rd_T42 ac aa).f2.f1) _ _ ((rd_T42 ac aa).f2.f2) ay az aA av _ ?side1 ?side2 bD.out).mono ?_);(case side1 => exact pc (Kd.C_below bb.out HB.out));(case side2 => exact bc.out);rintro e b_ ⟨b7, rfl, bh, hb⟩;refine ⟨_, rfl, ?_⟩;replace ah := am (Kd.S_elder' (ps ah.out) (Kd.R_base bh) hb);have ax := am (Kd.R_lower bh (below_size (pb HB)));replace ad := kb ad hb;replace ae := kb ae hb;replace ag := kb ag hb;replace af := kb af hb;replace HB := lb HB hb;clear hb bh;obtain ⟨bi, bj, bk⟩ := Kd.R_slice ax.out;(first | subst bk | (injection bk with f1_ f2_ f3_; have f4_ := f1_.symm; have f5_ := f3_.symm; clear f1_ f2_ f3_; subst f4_; subst f5_));refine hK.out _ _ (Q6 af) (fun hh => ?_);clear hK K;refine nm ?_;refine pu 8 ?_;refine on1 9 (fun K hK => ?_);refine value_ (w1 := ?_) (v := ?_) (by rfl) rfl ?_ ?_;rotate_left 2
       ·go_simp
        constructor
        ·rfl
        ·rfl
       refine hK.out _ _ ⟨(blk_cell (blk_alloc af.out _) 0).trans rfl, (blk_cell (blk_alloc af.out _) 1).trans rfl, (blk_cell (blk_alloc af.out _) 2).trans rfl, (blk_cell (blk_alloc af.out _) 3).trans rfl, (blk_cell (blk_alloc af.out _) 4).trans rfl, (blk_cell (blk_alloc af.out _) 5).trans rfl⟩ (fun hh => ?_);clear hK K;refine nm ?_;refine on1 10 (fun K hK => ?_);refine Kd.S_append_step k77 (w0 := w) w.heap.size (by rfl) (.tmp 21) (.tmp 30) 52 77 (.agg #[(.string ⟨#[]⟩), (.int .u64 0), (.int .u64 0), (.int .u64 0), (.int .i64 0), (.slice none 0 0)]) 72 rfl Try.underlying52 info77 rfl (by decide) (by omega) u4 ak (⟨(rd_T42 ac aa).f0, (rd_T42 ac aa).f1, (⟨(⟨ay, az⟩ : S24), aA, av⟩ : S60)⟩ : S77) [.string ((rd_T42 ac aa).f0), .int .u64 ((rd_T42 ac aa).f1), .int .u64 ay, .int .u64 az, .int .i64 aA, .slice bi av.length bj] (fun _ => True) (fun k_ => some k_ = (.slice bi av.length bj : Value).ownBlock) rfl rfl ?aP (fun k_ hk_ => ((Kd.R_mono (ok' := fun k_ => ((fun _ => True)) k_ ∧ some k_ ≠ (u4 : Value).ownBlock) (Kd.R_apart' (ax.out) (Kd.S_typed ah.out) (by decide)) (fun k_ hk => ⟨trivial, hk.2⟩))).1 k_ hk_.symm) ?aF ?aO ?aB ?aS ?aL ?_;(case aP => exact k77_mkM _ _ _ (⟨(rd_T42 ac aa).f0, (rd_T42 ac aa).f1, (⟨(⟨ay, az⟩ : S24), aA, av⟩ : S60)⟩ : S77) (Kd.R_mono (Kd.R_tight rfl (Kd.R_mono (ok' := fun k_ => ((fun _ => True)) k_ ∧ some k_ ≠ (u4 : Value).ownBlock) (Kd.R_apart' (ax.out) (Kd.S_typed ah.out) (by decide)) (fun k_ hk => ⟨trivial, hk.2⟩))) (fun _ h_ => h_)));(case aB => exact (pb HB));(case aF => exact (fun _ _ => trivial));(case aO => exact (ps (Kd.S_mono ah.out (fun k_ hk => ⟨trivial, fun e_ => hk.2 e_⟩))));(case aS => exact (below_size (pb HB)));(case aL => have := LMc15.out; omega);intro b8 ca ho hb hg hat;rw [← Ny392.out] at ho;replace ad := gr ad hg (Kd.S_ne ah.out ad.out (by decide));replace ae := gr ae hg (Kd.S_ne ah.out ae.out (by decide));replace ag := gr ag hg (Kd.S_ne ah.out ag.out (by decide));replace af := gr af hg (Kd.S_ne ah.out af.out (by decide));replace HB := am (hb);have bo := am (ho);clear ah ax ho hb hg hat;refine hK.out _ _ (Q6 af) (fun hh => ?_);clear hK K;refine nm ?_;refine pu 11 ?_;refine done_ (done_of HT_.out (by kernel_rfl)) ?_
       try go_wp2
       go_roundg k1
       case measure => have := HK1.out; omega
       case rel => exact ⟨(bu), (wrap64 (aa + 1)), eR, H', ⟨by have := HK1.out; omega⟩, ⟨ps bo.out⟩, ⟨pk ad.out⟩, ⟨pk ae.out⟩, ⟨pk ag.out⟩, ⟨pb HB⟩⟩
      ·exact (na a_ H).elim
     ·exact (na a9 H).elim
    ·exact (na a8 H).elim
   ·rw [if_neg aE] at H;have bn := decide_eq_false aE;clear aE;obtain ⟨rfl, rfl, rfl, rfl, rfl⟩ := J5 H;obtain ⟨a3, a4, bw⟩ := Kd.S_slice ah.out;subst bw;have bV := aW.out;have bW := aw.out;have bX := aX.out;have bY := au.out;have bA := g5 ag;have bZ := aV.out;have b0 := aU.out;have bB := g5 ae;go_wp2;refine bodyPost_ret (results_cell_row rfl _ _ aj 54 #[.int .u64 ao, .int .u64 ap, .int .i64 aq, .int .i64 ar, .slice a3 ak.length a4] (0, 0) _ rfl ((s5 rfl (bf (f1 rfl) ae au.out)).out) Try.underlying54 rfl (by kernel_rfl)) rfl ?_;exact ⟨_, ey (h := ⟨ps (Kd.S_mono (Kd.S_far (p := ⟨aj, 4, none⟩) (Kd.S_far (p := ⟨aj, 3, none⟩) (Kd.S_far (p := ⟨aj, 2, none⟩) (Kd.S_far (p := ⟨aj, 1, none⟩) (Kd.S_far (p := ⟨aj, 0, none⟩) (Kd.S_far (p := ⟨a7, 4, none⟩) (Kd.S_types (Kd.S_types ah.out ag.out (by decide)) ae.out (by decide)) (fun _ hk => hk.1.2) (.slice a3 ak.length a4)) (fun _ hk => hk.2) (.int .u64 ao)) (fun _ hk => hk.2) (.int .u64 ap)) (fun _ hk => hk.2) (.int .i64 aq)) (fun _ hk => hk.2) (.int .i64 ar)) (fun _ hk => hk.2) (.slice a3 ak.length a4)) (fun _ hk => trivial)), pb HB⟩)⟩
def r14_Small.l0 : Nat → Int → Int → Int → Int → List (S68) → Option (Bool)
 | 0, _, _, _, _, _ => none
 | k + 1, a, b, c, d, e => if a < (e.length : Int) then (if 0 ≤ a then (if (((rd_T68 e a).f0).size : Int) > 100 then (some false) else (r14_Small.l0 k (wrap64 (a + 1)) b c d e)) else (none)) else (some true)
def r14_Small.f (k : Nat) (a b c : Int) (d : List (S68)) : Option (Bool) := if (d.length : Int) > 60 then (some false) else (r14_Small.l0 k 0 a b c d)
theorem r14_Small.mono_l : ∀ k, (∀ y0 y1 y2 y3 y4, LeO (r14_Small.l0 k y0 y1 y2 y3 y4) (r14_Small.l0 (k + 1) y0 y1 y2 y3 y4))
 | 0 => fun _ _ _ _ _ r h => by simp [r14_Small.l0] at h
 | k + 1 => by
  have ih0 := r14_Small.mono_l k
  ·intro y0 y1 y2 y3 y4
   unfold r14_Small.l0
   with_reducible repeat' first | apply ih0 | exact LeO.refl _ | exact LeO.none _ | refine LeO.ite ?_ ?_ | refine LeO.bind ?_ (fun _ => ?_)
theorem r14_Small.mono : ∀ a0 a1 a2 a3 k, LeO (r14_Small.f k a0 a1 a2 a3) (r14_Small.f (k + 1) a0 a1 a2 a3) := by
 intro a0 a1 a2 a3 k;have ih0 := r14_Small.mono_l k
 unfold r14_Small.f
 with_reducible repeat' first | apply ih0 | exact LeO.refl _ | exact LeO.none _ | refine LeO.ite ?_ ?_ | refine LeO.bind ?_ (fun _ => ?_)
theorem r14_Small.calls (k : Nat) (ak an ao : Int) (ap : Option Addr) (aq : Nat) (aa : List (S68)) (r : Bool) (w : World) (au : Kd.C k68 w ap aa.length aa) (av : aa.length ≤ aq) (h : r14_Small.f k ak an ao aa = some r) :
  Calls Try.prog 35 #[.agg #[.int .u64 ak, .int .u64 an, .int .i64 ao, .slice ap aa.length aq]] w fun e w' => e = .returned (.bool r) ∧ Below w.heap.size w w' := by
 have hu60 := Try.underlying60;have aw := am au;have aK := am av;clear au av;have HB := am (Below.refl w.heap.size w);unfold r14_Small.f at h;have H := h;clear h
 by_cases c2 : (aa.length : Int) > 60
 ·rw [if_pos c2] at H;have ay : decide (60 < (aa.length : Int)) = true := decide_eq_true c2;have az : decide (60 < aa.length) = true := decide_eq_true (by omega);clear c2;obtain rfl := Option.some.inj H;go_enter Try.func35, Try.ntmps35;go_wp2_with (first | (refine bE 1 #[.int .u64 ak, .int .u64 an, .int .i64 ao, .slice ap aa.length aq] 60 ?_; intro ax hg w3 ad hb; have aC := gq hg HB; replace HB := lb HB hb; clear hb hg; have aA := g4 ad));go_ret;exact ey (h := pb HB)
 rw [if_neg c2] at H;have ay : decide (60 < (aa.length : Int)) = false := decide_eq_false c2;have az : decide (60 < aa.length) = false := decide_eq_false (by omega);clear c2;have H' := am H;clear H;go_enter Try.func35, Try.ntmps35;go_wp2_with (first | (refine bE 1 #[.int .u64 ak, .int .u64 an, .int .i64 ao, .slice ap aa.length aq] 60 ?_; intro ax hg w5 ad hb; have aC := gq hg HB; replace HB := lb HB hb; clear hb hg; have aB := g4 ad))
 go_loopg [3] k (fun kq v3 w' => ∃ (ac : Int), v3 = .int .i64 ac ∧ Aside0 (r14_Small.l0 kq ac ak an ao aa = some r) ∧ Aside0 (kq ≤ k) ∧ Aside0 (w'.heap[ax]? = some (.cells #[.int .u64 ak, .int .u64 an, .int .i64 ao, (.slice ap aa.length aq)] 60 (0, 0))) ∧ Aside0 (Below w.heap.size w w'))
 case atStart => exact ⟨(0), eR, H', ⟨Nat.le_refl _⟩, ⟨pk ad.out⟩, ⟨pb HB⟩⟩
 case round =>
  clear H' ay az aB;obtain ⟨ac, rfl, HA, HK1, ad, HB⟩ := hrel
  cases gk with
  | zero => exact absurd HA.out (by simp [r14_Small.l0])
  | succ k1 =>
   have H := HA.out;clear HA;simp only [r14_Small.l0] at H
   by_cases c7 : ac < (aa.length : Int)
   ·rw [if_pos c7] at H;have aE := decide_eq_true c7;clear c7
    by_cases c8 : 0 ≤ ac
    ·rw [if_pos c8] at H;have aL := decide_eq_true c8;clear c8
     by_cases c9 : (((rd_T68 aa ac).f0).size : Int) > 100
     ·rw [if_pos c9] at H;have aF : decide (100 < (((rd_T68 aa ac).f0).size : Int)) = true := decide_eq_true c9;have aG : decide (100 < ((rd_T68 aa ac).f0).size) = true := decide_eq_true (by omega);clear c9;obtain rfl := Option.some.inj H;have aH := g4 ad;have ai : 0 ≤ (ac : Int) := od;have aj : ac < (aa.length : Int) := od;obtain ⟨aD, ar, ae, af, ag, ah⟩ := at_T68 aw.out ac ai aj;cases ar;replace ae := hQ HB ae;replace af := hQ HB af;replace ag := hQ HB ag;replace ah := hQ HB ah;replace ai := eq_true ai;replace aj := eq_true aj
      go_wp2;go_ret;exact ey (h := pb HB)
     ·rw [if_neg c9] at H;have aF : decide (100 < (((rd_T68 aa ac).f0).size : Int)) = false := decide_eq_false c9;have aG : decide (100 < ((rd_T68 aa ac).f0).size) = false := decide_eq_false (by omega);clear c9;have H' := am H;clear H;have aI := g4 ad;have ai : 0 ≤ (ac : Int) := od;have aj : ac < (aa.length : Int) := od;obtain ⟨aD, ar, ae, af, ag, ah⟩ := at_T68 aw.out ac ai aj;cases ar;replace ae := hQ HB ae;replace af := hQ HB af;replace ag := hQ HB ag;replace ah := hQ HB ah;replace ai := eq_true ai;replace aj := eq_true aj
      go_wp2
      go_roundg k1
      case measure => have := HK1.out; omega
      case rel => exact ⟨(wrap64 (ac + 1)), eR, H', ⟨by have := HK1.out; omega⟩, ⟨pk ad.out⟩, ⟨pb HB⟩⟩
    ·exact (na c8 H).elim
   ·rw [if_neg c7] at H;have aE := decide_eq_false c7;clear c7;obtain rfl := Option.some.inj H;have aJ := g4 ad;go_wp2;go_ret;exact ey (h := pb HB)
set_option maxHeartbeats 400000000
set_option maxRecDepth 100000

def r21_Small.l0 : Nat → Int → Int → Int → Int → Int → List (S77) → Option (Bool)
 | 0, _, _, _, _, _, _ => none
 | k + 1, b, c, d, e, g, h => if b < (h.length : Int) then (if 0 ≤ b then (if (((rd_T77 h b).f0).size : Int) > 100 then (some false) else (if (((rd_T77 h b).f2.f2).length : Int) > 20 then (some false) else ((r14_Small.f k ((rd_T77 h b).f2.f0.f0) ((rd_T77 h b).f2.f0.f1) ((rd_T77 h b).f2.f1) ((rd_T77 h b).f2.f2)).bind fun a => (if a = true then (r21_Small.l0 k (wrap64 (b + 1)) c d e g h) else (some false))))) else (none)) else (some true)
def r21_Small.f (k : Nat) (a b c d : Int) (e : List (S77)) : Option (Bool) := if (e.length : Int) > 12 then (some false) else (r21_Small.l0 k 0 a b c d e)
theorem r21_Small.mono_l : ∀ k, (∀ y0 y1 y2 y3 y4 y5, LeO (r21_Small.l0 k y0 y1 y2 y3 y4 y5) (r21_Small.l0 (k + 1) y0 y1 y2 y3 y4 y5))
 | 0 => fun _ _ _ _ _ _ r h => by simp [r21_Small.l0] at h
 | k + 1 => by
  have ih0 := r21_Small.mono_l k
  ·intro y0 y1 y2 y3 y4 y5
   unfold r21_Small.l0
   with_reducible repeat' first | apply ih0 | apply r14_Small.mono | exact LeO.refl _ | exact LeO.none _ | refine LeO.ite ?_ ?_ | refine LeO.bind ?_ (fun _ => ?_)
theorem r21_Small.mono : ∀ a0 a1 a2 a3 a4 k, LeO (r21_Small.f k a0 a1 a2 a3 a4) (r21_Small.f (k + 1) a0 a1 a2 a3 a4) := by
 intro a0 a1 a2 a3 a4 k;have ih0 := r21_Small.mono_l k
 unfold r21_Small.f
 with_reducible repeat' first | apply ih0 | apply r14_Small.mono | exact LeO.refl _ | exact LeO.none _ | refine LeO.ite ?_ ?_ | refine LeO.bind ?_ (fun _ => ?_)
theorem r21_Small.calls (k : Nat) (aQ aR aS aT : Int) (aY : Option Addr) (aZ : Nat) (ac : List (S77)) (r : Bool) (w : World) (a_ : Kd.C k77 w aY ac.length ac) (ba : ac.length ≤ aZ) (h : r21_Small.f k aQ aR aS aT ac = some r) :
  Calls Try.prog 18 #[.agg #[.int .u64 aQ, .int .u64 aR, .int .i64 aS, .int .i64 aT, .slice aY ac.length aZ]] w fun e w' => e = .returned (.bool r) ∧ Below w.heap.size w w' := by
 have hu54 := Try.underlying54;have hu60 := Try.underlying60;have aB := am a_;have bB := am ba;clear a_ ba;have HB := am (Below.refl w.heap.size w);unfold r21_Small.f at h;have H := h;clear h
 by_cases c2 : (ac.length : Int) > 12
 ·rw [if_pos c2] at H;have bd : decide (12 < (ac.length : Int)) = true := decide_eq_true c2;have bg : decide (12 < ac.length) = true := decide_eq_true (by omega);clear c2;obtain rfl := Option.some.inj H;go_enter Try.func18, Try.ntmps18;go_wp2_with (first | ((try (refine gate_guard (by rfl) ?_; dsimp only)); refine bE 1 #[.int .u64 aQ, .int .u64 aR, .int .i64 aS, .int .i64 aT, .slice aY ac.length aZ] 54 ?_; intro bb hg w3 ao hb; have bl := gq hg HB; replace HB := lb HB hb; clear hb hg; have bh := g5 ao));go_ret;exact ey (h := pb HB)
 rw [if_neg c2] at H;have bd : decide (12 < (ac.length : Int)) = false := decide_eq_false c2;have bg : decide (12 < ac.length) = false := decide_eq_false (by omega);clear c2;have H' := am H;clear H;go_enter Try.func18, Try.ntmps18;go_wp2_with (first | ((try (refine gate_guard (by rfl) ?_; dsimp only)); refine bE 1 #[.int .u64 aQ, .int .u64 aR, .int .i64 aS, .int .i64 aT, .slice aY ac.length aZ] 54 ?_; intro bb hg w5 ao hb; have bl := gq hg HB; replace HB := lb HB hb; clear hb hg; have bi := g5 ao))
 go_loopg [3] k (fun kq v3 w' => ∃ (aa : Int), v3 = .int .i64 aa ∧ Aside0 (r21_Small.l0 kq aa aQ aR aS aT ac = some r) ∧ Aside0 (kq ≤ k) ∧ Aside0 (w'.heap[bb]? = some (.cells #[.int .u64 aQ, .int .u64 aR, .int .i64 aS, .int .i64 aT, (.slice aY ac.length aZ)] 54 (0, 0))) ∧ Aside0 (Below w.heap.size w w'))
 case atStart => exact ⟨(0), eR, H', ⟨Nat.le_refl _⟩, ⟨pk ao.out⟩, ⟨pb HB⟩⟩
 case round =>
  clear H' bd bg bi;obtain ⟨aa, rfl, HA, HK1, ao, HB⟩ := hrel
  cases gk with
  | zero => exact absurd HA.out (by simp [r21_Small.l0])
  | succ k1 =>
   have H := HA.out;clear HA;simp only [r21_Small.l0] at H
   by_cases c7 : aa < (ac.length : Int)
   ·rw [if_pos c7] at H;have bp := decide_eq_true c7;clear c7
    by_cases c8 : 0 ≤ aa
    ·rw [if_pos c8] at H;have bC := decide_eq_true c8;clear c8
     by_cases c9 : (((rd_T77 ac aa).f0).size : Int) > 100
     ·rw [if_pos c9] at H;have bq : decide (100 < (((rd_T77 ac aa).f0).size : Int)) = true := decide_eq_true c9;have br : decide (100 < ((rd_T77 ac aa).f0).size) = true := decide_eq_true (by omega);clear c9;obtain rfl := Option.some.inj H;have bu := g5 ao;have ap : 0 ≤ (aa : Int) := od;have aq : aa < (ac.length : Int) := od;obtain ⟨aE, a0, a1, aM, ae, af, ag, ah, ai, ad, aj, ak⟩ := at_T77 aB.out aa ap aq;cases aM;replace ae := hQ HB ae;replace af := hQ HB af;replace ag := hQ HB ag;replace ah := hQ HB ah;replace ai := hQ HB ai;replace ad := hQ HB ad;have aU := am ak;have aV := am aj;clear ak aj;replace ap := eq_true ap;replace aq := eq_true aq
      go_wp2;go_ret;exact ey (h := pb HB)
     ·rw [if_neg c9] at H;have bq : decide (100 < (((rd_T77 ac aa).f0).size : Int)) = false := decide_eq_false c9;have br : decide (100 < ((rd_T77 ac aa).f0).size) = false := decide_eq_false (by omega);clear c9
      by_cases a3 : (((rd_T77 ac aa).f2.f2).length : Int) > 20
      ·rw [if_pos a3] at H;have bm : decide (20 < (((rd_T77 ac aa).f2.f2).length : Int)) = true := decide_eq_true a3;have bn : decide (20 < ((rd_T77 ac aa).f2.f2).length) = true := decide_eq_true (by omega);clear a3;obtain rfl := Option.some.inj H;have bv := g5 ao;have ap : 0 ≤ (aa : Int) := od;have aq : aa < (ac.length : Int) := od;obtain ⟨aE, a0, a1, aM, ae, af, ag, ah, ai, ad, aj, ak⟩ := at_T77 aB.out aa ap aq;cases aM;replace ae := hQ HB ae;replace af := hQ HB af;replace ag := hQ HB ag;replace ah := hQ HB ah;replace ai := hQ HB ai;replace ad := hQ HB ad;have aU := am ak;have aV := am aj;clear ak aj;replace ap := eq_true ap;replace aq := eq_true aq;have aC : 0 ≤ (aa : Int) := od;have aD : aa < (ac.length : Int) := od;obtain ⟨aP, a7, a8, a2, ar, au, av, aw, ax, an, ay, az⟩ := at_T77 aB.out aa aC aD;obtain rfl : aE = aP := (by injection a2);replace ar := hQ HB ar;replace au := hQ HB au;replace av := hQ HB av;replace aw := hQ HB aw;replace ax := hQ HB ax;replace an := hQ HB an;have a4 := am az;have a5 := am ay;clear az ay;replace aC := eq_true aC;replace aD := eq_true aD;have ea_ := Option.some.inj (ad.symm.trans an)
       injection ea_ with ea_ en_ ec_;subst ea_;subst ec_;clear en_;go_wp2;go_ret;exact ey (h := pb HB)
      ·rw [if_neg a3] at H;have bm : decide (20 < (((rd_T77 ac aa).f2.f2).length : Int)) = false := decide_eq_false a3;have bn : decide (20 < ((rd_T77 ac aa).f2.f2).length) = false := decide_eq_false (by omega);clear a3;obtain ⟨bs, bo, H⟩ := ob H;(try dsimp only at H)
       by_cases bc : bs = true
       ·subst bc
        rw [if_pos rfl] at H;have H' := am H;clear H;have bw := g5 ao;have ap : 0 ≤ (aa : Int) := od;have aq : aa < (ac.length : Int) := od;obtain ⟨aE, a0, a1, aM, ae, af, ag, ah, ai, ad, aj, ak⟩ := at_T77 aB.out aa ap aq;cases aM;replace ae := hQ HB ae;replace af := hQ HB af;replace ag := hQ HB ag;replace ah := hQ HB ah;replace ai := hQ HB ai;replace ad := hQ HB ad;have aU := am ak;have aV := am aj;clear ak aj;replace ap := eq_true ap;replace aq := eq_true aq;have aC : 0 ≤ (aa : Int) := od;have aD : aa < (ac.length : Int) := od;obtain ⟨aP, a7, a8, a2, ar, au, av, aw, ax, an, ay, az⟩ := at_T77 aB.out aa aC aD;obtain rfl : aE = aP := (by injection a2);replace ar := hQ HB ar;replace au := hQ HB au;replace av := hQ HB av;replace aw := hQ HB aw;replace ax := hQ HB ax;replace an := hQ HB an;have a4 := am az;have a5 := am ay;clear az ay;replace aC := eq_true aC;replace aD := eq_true aD;have ea_ := Option.some.inj (ad.symm.trans an)
        injection ea_ with ea_ en_ ec_;subst ea_;subst ec_;clear en_;have aN : 0 ≤ (aa : Int) := od;have aO : aa < (ac.length : Int) := od;obtain ⟨a6, bj, bk, a9, aF, aG, aH, aI, aJ, aA, aK, aL⟩ := at_T77 aB.out aa aN aO;obtain rfl : aE = a6 := (by injection a9);replace aF := hQ HB aF;replace aG := hQ HB aG;replace aH := hQ HB aH;replace aI := hQ HB aI;replace aJ := hQ HB aJ;replace aA := hQ HB aA;have aW := am aL;have aX := am aK;clear aL aK;replace aN := eq_true aN;replace aO := eq_true aO;have ea_ := Option.some.inj (ad.symm.trans aA);injection ea_ with ea_ en_ ec_;subst ea_;subst ec_;clear en_;go_wp2_with (first | (go_at_call 35; (with_reducible refine (r14_Small.calls k1 ((rd_T77 ac aa).f2.f0.f0) ((rd_T77 ac aa).f2.f0.f1) ((rd_T77 ac aa).f2.f1) _ _ ((rd_T77 ac aa).f2.f2) true _ ?side1 ?side2 bo.out).mono ?_); (case side1 => exact pc (Kd.C_below aW.out HB.out)); (case side2 => exact aX.out); rintro e bD ⟨rfl, hb⟩; replace ao := kb ao hb; replace HB := lb HB hb; clear hb))
        go_roundg k1
        case measure => have := HK1.out; omega
        case rel => exact ⟨(wrap64 (aa + 1)), eR, H', ⟨by have := HK1.out; omega⟩, ⟨pk ao.out⟩, ⟨pb HB⟩⟩
       ·replace bc := nt bc;subst bc
        rw [if_neg nf] at H;obtain rfl := Option.some.inj H;have bz := g5 ao;have ap : 0 ≤ (aa : Int) := od;have aq : aa < (ac.length : Int) := od;obtain ⟨aE, a0, a1, aM, ae, af, ag, ah, ai, ad, aj, ak⟩ := at_T77 aB.out aa ap aq;cases aM;replace ae := hQ HB ae;replace af := hQ HB af;replace ag := hQ HB ag;replace ah := hQ HB ah;replace ai := hQ HB ai;replace ad := hQ HB ad;have aU := am ak;have aV := am aj;clear ak aj;replace ap := eq_true ap;replace aq := eq_true aq;have aC : 0 ≤ (aa : Int) := od;have aD : aa < (ac.length : Int) := od;obtain ⟨aP, a7, a8, a2, ar, au, av, aw, ax, an, ay, az⟩ := at_T77 aB.out aa aC aD;obtain rfl : aE = aP := (by injection a2);replace ar := hQ HB ar;replace au := hQ HB au;replace av := hQ HB av;replace aw := hQ HB aw;replace ax := hQ HB ax;replace an := hQ HB an;have a4 := am az;have a5 := am ay;clear az ay;replace aC := eq_true aC;replace aD := eq_true aD;have ea_ := Option.some.inj (ad.symm.trans an)
        injection ea_ with ea_ en_ ec_;subst ea_;subst ec_;clear en_;have aN : 0 ≤ (aa : Int) := od;have aO : aa < (ac.length : Int) := od;obtain ⟨a6, bj, bk, a9, aF, aG, aH, aI, aJ, aA, aK, aL⟩ := at_T77 aB.out aa aN aO;obtain rfl : aE = a6 := (by injection a9);replace aF := hQ HB aF;replace aG := hQ HB aG;replace aH := hQ HB aH;replace aI := hQ HB aI;replace aJ := hQ HB aJ;replace aA := hQ HB aA;have aW := am aL;have aX := am aK;clear aL aK;replace aN := eq_true aN;replace aO := eq_true aO;have ea_ := Option.some.inj (ad.symm.trans aA);injection ea_ with ea_ en_ ec_;subst ea_;subst ec_;clear en_;go_wp2_with (first | (go_at_call 35; (with_reducible refine (r14_Small.calls k1 ((rd_T77 ac aa).f2.f0.f0) ((rd_T77 ac aa).f2.f0.f1) ((rd_T77 ac aa).f2.f1) _ _ ((rd_T77 ac aa).f2.f2) false _ ?side1 ?side2 bo.out).mono ?_); (case side1 => exact pc (Kd.C_below aW.out HB.out)); (case side2 => exact aX.out); rintro e bF ⟨rfl, hb⟩; replace ao := kb ao hb; replace HB := lb HB hb; clear hb));go_ret;exact ey (h := pb HB)
    ·exact (na c8 H).elim
   ·rw [if_neg c7] at H;have bp := decide_eq_false c7;clear c7;obtain rfl := Option.some.inj H;have bA := g5 ao;go_wp2;go_ret;exact ey (h := pb HB)
def r05_left.f (a b : Int) : Option (Int) := if 0 ≤ b then (if 0 ≤ (IntKind.u64.wrap (64 - b)) then (some (Go.bits .or .u64 (shl .u64 a b) (shr .u64 a (IntKind.u64.wrap (64 - b))))) else (none)) else (none)
theorem r05_left.calls (a0 a1 r : Int) (w : World) (h : r05_left.f a0 a1 = some r) :
  Calls Try.prog 45 #[.int .u64 a0, .int .u64 a1] w fun e w' => e = .returned (.int .u64 r) ∧ Below w.heap.size w w' := by
 have HB := am (Below.refl w.heap.size w);unfold r05_left.f at h;have H := h;clear h
 by_cases c3 : 0 ≤ a1
 rotate_left
 ·exact (na c3 H).elim
 rw [if_pos c3] at H;have ae := eq_true c3;have af := decide_eq_true c3;clear c3;obtain ⟨ac, hji4⟩ : ∃ j_ : Int, (shl .u64 a0 a1) = j_ := ⟨_, rfl⟩;rw [hji4] at H;have hji4_ : (IntKind.u64.wrap (a0 * 2 ^ min a1.toNat 64)) = ac := hji4;have hji4z : a1 ≤ 64 → (IntKind.u64.wrap (a0 * 2 ^ a1.toNat)) = ac := shl_small hji4;obtain ⟨aa, hji5⟩ : ∃ j_ : Int, (IntKind.u64.wrap (64 - a1)) = j_ := ⟨_, rfl⟩;rw [hji5] at H
 by_cases c6 : 0 ≤ (aa)
 rotate_left
 ·exact (na c6 H).elim
 rw [if_pos c6] at H;have ag := eq_true c6;have ah := decide_eq_true c6;clear c6;obtain ⟨ad, hji7⟩ : ∃ j_ : Int, (shr .u64 a0 (aa)) = j_ := ⟨_, rfl⟩;rw [hji7] at H;have hji7_ : (a0 / 2 ^ min (aa).toNat 64) = ad := hji7;have hji7z : (aa) ≤ 64 → (a0 / 2 ^ (aa).toNat) = ad := shr_small hji7;obtain rfl := Option.some.inj H;go_enter Try.func45, Try.ntmps45;go_wp2;go_ret;exact ⟨by first | rfl | (simp [errW_none, errW_some] <;> rfl) | (simp only [← hji4, ← hji5, ← hji7]; first | rfl | (simp [errW_none, errW_some] <;> rfl)) | (simp [*, errW_none, errW_some] <;> rfl), pb HB⟩
set_option maxHeartbeats 400000000
set_option maxRecDepth 100000

def r05_turns.l0 : Nat → Int → Int → Int → Int → Int → Int → Option (Int × Int × Int × Int)
 | 0, _, _, _, _, _, _ => none
 | k + 1, h, i, j, l, m, n => if i < h then ((r05_left.f l 13).bind fun a => ((r05_left.f (IntKind.u64.wrap (j + l)) 32).bind fun b => ((r05_left.f n 16).bind fun c => ((r05_left.f (Go.bits .xor .u64 c (IntKind.u64.wrap (m + n))) 21).bind fun d => ((r05_left.f (Go.bits .xor .u64 a (IntKind.u64.wrap (j + l))) 17).bind fun e => ((r05_left.f (IntKind.u64.wrap ((IntKind.u64.wrap (m + n)) + (Go.bits .xor .u64 a (IntKind.u64.wrap (j + l))))) 32).bind fun g => (r05_turns.l0 k h (wrap64 (i + 1)) (IntKind.u64.wrap (b + (Go.bits .xor .u64 c (IntKind.u64.wrap (m + n))))) (Go.bits .xor .u64 e (IntKind.u64.wrap ((IntKind.u64.wrap (m + n)) + (Go.bits .xor .u64 a (IntKind.u64.wrap (j + l)))))) g (Go.bits .xor .u64 d (IntKind.u64.wrap (b + (Go.bits .xor .u64 c (IntKind.u64.wrap (m + n))))))))))))) else (some (j, l, m, n))
def r05_turns.f (k : Nat) (a b c d e : Int) : Option (Int × Int × Int × Int) := r05_turns.l0 k e 0 a b c d
theorem r05_turns.mono_l : ∀ k, (∀ y0 y1 y2 y3 y4 y5, LeO (r05_turns.l0 k y0 y1 y2 y3 y4 y5) (r05_turns.l0 (k + 1) y0 y1 y2 y3 y4 y5))
 | 0 => fun _ _ _ _ _ _ r h => by simp [r05_turns.l0] at h
 | k + 1 => by
  have ih0 := r05_turns.mono_l k
  ·intro y0 y1 y2 y3 y4 y5
   unfold r05_turns.l0
   with_reducible repeat' first | apply ih0 | exact LeO.refl _ | exact LeO.none _ | refine LeO.ite ?_ ?_ | refine LeO.bind ?_ (fun _ => ?_)
theorem r05_turns.mono : ∀ a0 a1 a2 a3 a4 k, LeO (r05_turns.f k a0 a1 a2 a3 a4) (r05_turns.f (k + 1) a0 a1 a2 a3 a4) := by
 intro a0 a1 a2 a3 a4 k;have ih0 := r05_turns.mono_l k
 unfold r05_turns.f
 with_reducible repeat' first | apply ih0 | exact LeO.refl _ | exact LeO.none _ | refine LeO.ite ?_ ?_ | refine LeO.bind ?_ (fun _ => ?_)
def r05_turns.T5 : DT := (true, [dz, dd [0], dd [1], dz, dd [3], dd [2, 4], ([0, 1, 2, 3, 4, 5], []), ([6, 5, 2, 0, 1, 2, 3, 4, 5], [5, 6])])
def r05_turns.B5 : List Nat := [0, 1, 3, 0, 8, 31, 63, 127]
theorem r05_turns.tab5 : rtab .any (opsOf Try.f30 5) = r05_turns.T5 := by kernel_rfl
theorem r05_turns.bits5 : waitsOk r05_turns.T5.2 r05_turns.B5 = true := by kernel_rfl
def r05_turns.T8 : DT := (true, [dz, dd [0], dd [1], dz, dd [3], dd [2, 4], ([0, 1, 2, 3, 4, 5], []), ([6, 5, 2, 0, 1, 2, 3, 4, 5], [5, 6])])
def r05_turns.B8 : List Nat := [0, 1, 3, 0, 8, 31, 63, 127]
theorem r05_turns.tab8 : rtab .any (opsOf Try.f30 8) = r05_turns.T8 := by kernel_rfl
theorem r05_turns.bits8 : waitsOk r05_turns.T8.2 r05_turns.B8 = true := by kernel_rfl
def r05_turns.T10 : DT := (true, [dz, dd [0], dd [1], dz, dd [3], dd [2, 4], ([0, 1, 2, 3, 4, 5], []), ([6, 5, 2, 0, 1, 2, 3, 4, 5], [5, 6])])
def r05_turns.B10 : List Nat := [0, 1, 3, 0, 8, 31, 63, 127]
theorem r05_turns.tab10 : rtab .any (opsOf Try.f30 10) = r05_turns.T10 := by kernel_rfl
theorem r05_turns.bits10 : waitsOk r05_turns.T10.2 r05_turns.B10 = true := by kernel_rfl
def r05_turns.T12 : DT := (true, [dz, dd [0], dd [1], dz, dd [3], dd [2, 4], ([0, 1, 2, 3, 4, 5], []), ([6, 5, 2, 0, 1, 2, 3, 4, 5], [5, 6])])
def r05_turns.B12 : List Nat := [0, 1, 3, 0, 8, 31, 63, 127]
theorem r05_turns.tab12 : rtab .any (opsOf Try.f30 12) = r05_turns.T12 := by kernel_rfl
theorem r05_turns.bits12 : waitsOk r05_turns.T12.2 r05_turns.B12 = true := by kernel_rfl
theorem r05_turns.calls (k : Nat) (au av aw ax a1 r1 r2 r3 r4 : Int) (w : World) (h : r05_turns.f k au av aw ax a1 = some (r1, r2, r3, r4)) :
  Calls Try.prog 30 #[.agg #[.int .u64 au, .int .u64 av, .int .u64 aw, .int .u64 ax], .int .i64 a1] w fun e w' => e = .returned (.agg #[.int .u64 r1, .int .u64 r2, .int .u64 r3, .int .u64 r4]) ∧ Below w.heap.size w w' := by
 have hu82 := Try.underlying82;have HB := am (Below.refl w.heap.size w);unfold r05_turns.f at h;have H := h;clear h;have H' := am H;clear H
 go_enter Try.func30, Try.ntmps30;go_wp2_with (first | (refine bE 2 #[.int .u64 au, .int .u64 av, .int .u64 aw, .int .u64 ax] 82 ?_; intro ag hg w3 af hb; have aZ := gq hg HB; replace HB := lb HB hb; clear hb hg) | (refine bE 4 #[.int .u64 0, .int .u64 0, .int .u64 0, .int .u64 0] 82 ?_; intro aq hg w4 ah hb; have a0 := gq hg HB; replace HB := lb HB hb; obtain ⟨ao, an, -, -⟩ := pm hg af; replace af := kb af hb; clear hb hg))
 go_loopg [5] k (fun kq v5 w' => ∃ (ar ae ad ac aa : Int), v5 = .int .i64 ar ∧ Aside0 (r05_turns.l0 kq a1 ar ae ad ac aa = some (r1, r2, r3, r4)) ∧ Aside0 (kq ≤ k) ∧ Aside0 (w'.heap[ag]? = some (.cells #[.int .u64 ae, .int .u64 ad, .int .u64 ac, .int .u64 aa] 82 (0, 0))) ∧ Aside0 (w'.heap[aq]? = some (.cells #[.int .u64 0, .int .u64 0, .int .u64 0, .int .u64 0] 82 (0, 0))) ∧ Aside0 (Below w.heap.size w w'))
 case atStart => exact ⟨(0), (au), (av), (aw), (ax), eR, H', ⟨Nat.le_refl _⟩, ⟨pk af.out⟩, ⟨pk ah.out⟩, ⟨pb HB⟩⟩
 case round =>
  clear H';obtain ⟨ar, ae, ad, ac, aa, rfl, HA, HK1, af, ah, HB⟩ := hrel
  cases gk with
  | zero => exact absurd HA.out (by simp [r05_turns.l0])
  | succ k1 =>
   have H := HA.out;clear HA;simp only [r05_turns.l0] at H
   by_cases c5 : ar < a1
   ·rw [if_pos c5] at H;have aD := decide_eq_true c5;clear c5;obtain ⟨ak, A6, H⟩ := ob H;(try dsimp only at H);obtain ⟨aj, A7, H⟩ := ob H;(try dsimp only at H);obtain ⟨ai, A8, H⟩ := ob H;(try dsimp only at H);obtain ⟨ap, A9, H⟩ := ob H;(try dsimp only at H);obtain ⟨ay, aR, H⟩ := ob H;(try dsimp only at H);obtain ⟨aC, aS, H⟩ := ob H;(try dsimp only at H);have H' := am H;clear H;have a2 := ao.out;have a3 := an.out;have aE := g4 af
    try go_wp2
    have n0_ : Aside0 ((wr.setCell ⟨ag, 0, none⟩ (.int .u64 (IntKind.u64.wrap (ae + ad)))).heap[ag]? = some (.cells #[.int .u64 (IntKind.u64.wrap (ae + ad)), .int .u64 ad, .int .u64 ac, .int .u64 aa] 82 (0, 0))) := ⟨by refine pk ?_; refine blk_put (cs := #[.int .u64 ae, .int .u64 ad, .int .u64 ac, .int .u64 aa]) ?_ 0 _ rfl; refine pk ?_; exact af.out⟩;have n1_ : Aside0 ((wr.setCell ⟨ag, 0, none⟩ (.int .u64 (IntKind.u64.wrap (ae + ad)))).heap[aq]? = some (.cells #[.int .u64 0, .int .u64 0, .int .u64 0, .int .u64 0] 82 (0, 0))) := ⟨(bf (f1 rfl) ah an.out).out⟩;have n2_ : Aside0 (Below w.heap.size w (wr.setCell ⟨ag, 0, none⟩ (.int .u64 (IntKind.u64.wrap (ae + ad))))) := ⟨pb HB⟩;clear af ah HB;generalize (wr.setCell ⟨ag, 0, none⟩ (.int .u64 (IntKind.u64.wrap (ae + ad)))) = aT at n0_ n1_ n2_ ⊢;have af := n0_;have ah := n1_;have HB := n2_;clear n0_ n1_ n2_;replace af := am (blk_drew af.out);replace ah := am (blk_drew ah.out);replace HB := am (below_drew1 HB.out);refine start_ (n := 8) (S := fun w' => ci w' ag 0 .u64 (IntKind.u64.wrap (ae + ad)) ∧ ci w' ag 1 .u64 ad ∧ ci w' ag 2 .u64 ac ∧ ci w' ag 3 .u64 aa) (ds := [7]) #[bF, bF, bF, bF, bF, bF, bF, bF] (by kernel_rfl) rfl rfl (Q4 af) (fun hh => ?_); refine with_tabW r05_turns.tab5 r05_turns.bits5 (fun HT_ HW_ => ?_);generalize aT.drew = bd at af ah HB hh ⊢;refine P2 0 3 ?_;refine ta 1 hh ?_;refine ta 4 hh ?_;refine on1 2 (fun K hK => ?_);refine gs Try.func45 #[.int .u64 ad, .int .u64 13] ?_;(with_reducible refine (r05_left.calls ad 13 ak _ A6.out).mono ?_);rintro e aU ⟨rfl, hb⟩;refine ⟨_, rfl, ?_⟩;replace af := kb af hb;replace ah := kb ah hb;replace HB := lb HB hb;clear hb;refine hK.out _ _ (Q4 af) (fun hh => ?_);clear hK K;refine nm ?_;refine P2 5 6 ?_;refine last_ (i := 7) (N := none) #[bT, bT, bT, bT, bT, bT, bT, bT] rfl rfl (one_of HT_.out (by kernel_rfl)) (by decide) (fun K hK => ?_);have a_ : aU.cell? ⟨ag, 1, none⟩ = some (.int .u64 ad) := ce af 1;have a4 := blk_frozen af.out 1;have aF := an.out;have hms17_1 := ao.out;refine skip_ (w1 := ?_) (by rfl) rfl ?_ ?_;rotate_left
    ·go_simp
     rfl
    refine hK.out _ _ ?_;clear hK K;refine done_ (done_of HT_.out (by kernel_rfl)) ?_;have aG := g4 af
    try go_wp2_with (first | (refine gl (some 26) Try.func45 #[.int .u64 (IntKind.u64.wrap (ae + ad)), .int .u64 32] ?_; (with_reducible refine (r05_left.calls (IntKind.u64.wrap (ae + ad)) 32 aj _ A7.out).mono ?_); rintro e aB ⟨rfl, hb⟩; refine ⟨_, rfl, ?_⟩; replace af := am (blk_below (g := ag) (o := .cells #[.int .u64 (IntKind.u64.wrap (ae + ad)), .int .u64 (Go.bits .xor .u64 ak (IntKind.u64.wrap (ae + ad))), .int .u64 ac, .int .u64 aa] 82 (0, 0)) (by refine pk ?_; refine blk_put (cs := #[.int .u64 (IntKind.u64.wrap (ae + ad)), .int .u64 ad, .int .u64 ac, .int .u64 aa]) ?_ 1 _ rfl; refine pk ?_; exact af.out) hb); replace ah := am (blk_below (g := aq) (o := .cells #[.int .u64 0, .int .u64 0, .int .u64 0, .int .u64 0] 82 (0, 0)) ((bf (f1 rfl) ah an.out).out) hb); replace HB := lb HB hb; clear hb; have aH := g4 af))
    have n0_ : Aside0 (((aB.setCell ⟨ag, 0, none⟩ (.int .u64 aj)).setCell ⟨ag, 2, none⟩ (.int .u64 (IntKind.u64.wrap (ac + aa)))).heap[ag]? = some (.cells #[.int .u64 aj, .int .u64 (Go.bits .xor .u64 ak (IntKind.u64.wrap (ae + ad))), .int .u64 (IntKind.u64.wrap (ac + aa)), .int .u64 aa] 82 (0, 0))) := ⟨by refine pk ?_; refine blk_put (cs := #[.int .u64 aj, .int .u64 (Go.bits .xor .u64 ak (IntKind.u64.wrap (ae + ad))), .int .u64 ac, .int .u64 aa]) ?_ 2 _ rfl; refine pk ?_; refine blk_put (cs := #[.int .u64 (IntKind.u64.wrap (ae + ad)), .int .u64 (Go.bits .xor .u64 ak (IntKind.u64.wrap (ae + ad))), .int .u64 ac, .int .u64 aa]) ?_ 0 _ rfl; refine pk ?_; exact af.out⟩;have n1_ : Aside0 (((aB.setCell ⟨ag, 0, none⟩ (.int .u64 aj)).setCell ⟨ag, 2, none⟩ (.int .u64 (IntKind.u64.wrap (ac + aa)))).heap[aq]? = some (.cells #[.int .u64 0, .int .u64 0, .int .u64 0, .int .u64 0] 82 (0, 0))) := ⟨(bf (f2 rfl) ah an.out).out⟩;have n2_ : Aside0 (Below w.heap.size w ((aB.setCell ⟨ag, 0, none⟩ (.int .u64 aj)).setCell ⟨ag, 2, none⟩ (.int .u64 (IntKind.u64.wrap (ac + aa))))) := ⟨pb HB⟩;clear af ah HB;generalize ((aB.setCell ⟨ag, 0, none⟩ (.int .u64 aj)).setCell ⟨ag, 2, none⟩ (.int .u64 (IntKind.u64.wrap (ac + aa)))) = aV at n0_ n1_ n2_ ⊢;have af := n0_;have ah := n1_;have HB := n2_;clear n0_ n1_ n2_;replace af := am (blk_drew af.out);replace ah := am (blk_drew ah.out);replace HB := am (below_drew1 HB.out);refine start_ (n := 8) (S := fun w' => ci w' ag 0 .u64 aj ∧ ci w' ag 1 .u64 (Go.bits .xor .u64 ak (IntKind.u64.wrap (ae + ad))) ∧ ci w' ag 2 .u64 (IntKind.u64.wrap (ac + aa)) ∧ ci w' ag 3 .u64 aa) (ds := [7]) #[bF, bF, bF, bF, bF, bF, bF, bF] (by kernel_rfl) rfl rfl (Q4 af) (fun hh => ?_); refine with_tabW r05_turns.tab8 r05_turns.bits8 (fun HT_ HW_ => ?_);generalize aV.drew = bg at af ah HB hh ⊢;refine P2 0 3 ?_;refine ta 1 hh ?_;refine ta 4 hh ?_;refine on1 2 (fun K hK => ?_);refine gs Try.func45 #[.int .u64 aa, .int .u64 16] ?_;(with_reducible refine (r05_left.calls aa 16 ai _ A8.out).mono ?_);rintro e az ⟨rfl, hb⟩;refine ⟨_, rfl, ?_⟩;replace af := kb af hb;replace ah := kb ah hb;replace HB := lb HB hb;clear hb;refine hK.out _ _ (Q4 af) (fun hh => ?_);clear hK K;refine nm ?_;refine P2 5 6 ?_;refine last_ (i := 7) (N := none) #[bT, bT, bT, bT, bT, bT, bT, bT] rfl rfl (one_of HT_.out (by kernel_rfl)) (by decide) (fun K hK => ?_);have ba : az.cell? ⟨ag, 3, none⟩ = some (.int .u64 aa) := ce af 3;have a5 := blk_frozen af.out 3;have aI := an.out;have hms24_1 := ao.out;refine skip_ (w1 := ?_) (by rfl) rfl ?_ ?_;rotate_left
    ·go_simp
     rfl
    refine hK.out _ _ ?_;clear hK K;refine done_ (done_of HT_.out (by kernel_rfl)) ?_;have aJ := g4 af
    try go_wp2
    have n0_ : Aside0 (((az.setCell ⟨ag, 3, none⟩ (.int .u64 (Go.bits .xor .u64 ai (IntKind.u64.wrap (ac + aa))))).setCell ⟨ag, 0, none⟩ (.int .u64 (IntKind.u64.wrap (aj + (Go.bits .xor .u64 ai (IntKind.u64.wrap (ac + aa))))))).heap[ag]? = some (.cells #[.int .u64 (IntKind.u64.wrap (aj + (Go.bits .xor .u64 ai (IntKind.u64.wrap (ac + aa))))), .int .u64 (Go.bits .xor .u64 ak (IntKind.u64.wrap (ae + ad))), .int .u64 (IntKind.u64.wrap (ac + aa)), .int .u64 (Go.bits .xor .u64 ai (IntKind.u64.wrap (ac + aa)))] 82 (0, 0))) := ⟨by refine pk ?_; refine blk_put (cs := #[.int .u64 aj, .int .u64 (Go.bits .xor .u64 ak (IntKind.u64.wrap (ae + ad))), .int .u64 (IntKind.u64.wrap (ac + aa)), .int .u64 (Go.bits .xor .u64 ai (IntKind.u64.wrap (ac + aa)))]) ?_ 0 _ rfl; refine pk ?_; refine blk_put (cs := #[.int .u64 aj, .int .u64 (Go.bits .xor .u64 ak (IntKind.u64.wrap (ae + ad))), .int .u64 (IntKind.u64.wrap (ac + aa)), .int .u64 aa]) ?_ 3 _ rfl; refine pk ?_; exact af.out⟩;have n1_ : Aside0 (((az.setCell ⟨ag, 3, none⟩ (.int .u64 (Go.bits .xor .u64 ai (IntKind.u64.wrap (ac + aa))))).setCell ⟨ag, 0, none⟩ (.int .u64 (IntKind.u64.wrap (aj + (Go.bits .xor .u64 ai (IntKind.u64.wrap (ac + aa))))))).heap[aq]? = some (.cells #[.int .u64 0, .int .u64 0, .int .u64 0, .int .u64 0] 82 (0, 0))) := ⟨(bf (f2 rfl) ah an.out).out⟩;have n2_ : Aside0 (Below w.heap.size w ((az.setCell ⟨ag, 3, none⟩ (.int .u64 (Go.bits .xor .u64 ai (IntKind.u64.wrap (ac + aa))))).setCell ⟨ag, 0, none⟩ (.int .u64 (IntKind.u64.wrap (aj + (Go.bits .xor .u64 ai (IntKind.u64.wrap (ac + aa)))))))) := ⟨pb HB⟩;clear af ah HB;generalize ((az.setCell ⟨ag, 3, none⟩ (.int .u64 (Go.bits .xor .u64 ai (IntKind.u64.wrap (ac + aa))))).setCell ⟨ag, 0, none⟩ (.int .u64 (IntKind.u64.wrap (aj + (Go.bits .xor .u64 ai (IntKind.u64.wrap (ac + aa))))))) = aW at n0_ n1_ n2_ ⊢;have af := n0_;have ah := n1_;have HB := n2_;clear n0_ n1_ n2_;replace af := am (blk_drew af.out);replace ah := am (blk_drew ah.out);replace HB := am (below_drew1 HB.out);refine start_ (n := 8) (S := fun w' => w'.cell? ⟨ag, 0, none⟩ = some (.int .u64 (IntKind.u64.wrap (aj + (Go.bits .xor .u64 ai (IntKind.u64.wrap (ac + aa)))))) ∧ ci w' ag 1 .u64 (Go.bits .xor .u64 ak (IntKind.u64.wrap (ae + ad))) ∧ ci w' ag 2 .u64 (IntKind.u64.wrap (ac + aa)) ∧ ci w' ag 3 .u64 (Go.bits .xor .u64 ai (IntKind.u64.wrap (ac + aa)))) (ds := [7]) #[bF, bF, bF, bF, bF, bF, bF, bF] (by kernel_rfl) rfl rfl (Q4 af) (fun hh => ?_); refine with_tabW r05_turns.tab10 r05_turns.bits10 (fun HT_ HW_ => ?_);generalize aW.drew = bh at af ah HB hh ⊢;refine P2 0 3 ?_;refine ta 1 hh ?_;refine ta 4 hh ?_;refine on1 2 (fun K hK => ?_);refine gs Try.func45 #[.int .u64 (Go.bits .xor .u64 ai (IntKind.u64.wrap (ac + aa))), .int .u64 21] ?_;(with_reducible refine (r05_left.calls (Go.bits .xor .u64 ai (IntKind.u64.wrap (ac + aa))) 21 ap _ A9.out).mono ?_);rintro e aA ⟨rfl, hb⟩;refine ⟨_, rfl, ?_⟩;replace af := kb af hb;replace ah := kb ah hb;replace HB := lb HB hb;clear hb;refine hK.out _ _ (Q4 af) (fun hh => ?_);clear hK K;refine nm ?_;refine P2 5 6 ?_;refine last_ (i := 7) (N := none) #[bT, bT, bT, bT, bT, bT, bT, bT] rfl rfl (one_of HT_.out (by kernel_rfl)) (by decide) (fun K hK => ?_);have bb : aA.cell? ⟨ag, 3, none⟩ = some (.int .u64 (Go.bits .xor .u64 ai (IntKind.u64.wrap (ac + aa)))) := ce af 3;have a6 := blk_frozen af.out 3;have aK := an.out;have hms29_1 := ao.out;refine skip_ (w1 := ?_) (by rfl) rfl ?_ ?_;rotate_left
    ·go_simp
     rfl
    refine hK.out _ _ ?_;clear hK K;refine done_ (done_of HT_.out (by kernel_rfl)) ?_;have aL := g4 af
    try go_wp2
    have n0_ : Aside0 (((aA.setCell ⟨ag, 3, none⟩ (.int .u64 (Go.bits .xor .u64 ap (IntKind.u64.wrap (aj + (Go.bits .xor .u64 ai (IntKind.u64.wrap (ac + aa)))))))).setCell ⟨ag, 2, none⟩ (.int .u64 (IntKind.u64.wrap ((IntKind.u64.wrap (ac + aa)) + (Go.bits .xor .u64 ak (IntKind.u64.wrap (ae + ad))))))).heap[ag]? = some (.cells #[.int .u64 (IntKind.u64.wrap (aj + (Go.bits .xor .u64 ai (IntKind.u64.wrap (ac + aa))))), .int .u64 (Go.bits .xor .u64 ak (IntKind.u64.wrap (ae + ad))), .int .u64 (IntKind.u64.wrap ((IntKind.u64.wrap (ac + aa)) + (Go.bits .xor .u64 ak (IntKind.u64.wrap (ae + ad))))), .int .u64 (Go.bits .xor .u64 ap (IntKind.u64.wrap (aj + (Go.bits .xor .u64 ai (IntKind.u64.wrap (ac + aa))))))] 82 (0, 0))) := ⟨by refine pk ?_; refine blk_put (cs := #[.int .u64 (IntKind.u64.wrap (aj + (Go.bits .xor .u64 ai (IntKind.u64.wrap (ac + aa))))), .int .u64 (Go.bits .xor .u64 ak (IntKind.u64.wrap (ae + ad))), .int .u64 (IntKind.u64.wrap (ac + aa)), .int .u64 (Go.bits .xor .u64 ap (IntKind.u64.wrap (aj + (Go.bits .xor .u64 ai (IntKind.u64.wrap (ac + aa))))))]) ?_ 2 _ rfl; refine pk ?_; refine blk_put (cs := #[.int .u64 (IntKind.u64.wrap (aj + (Go.bits .xor .u64 ai (IntKind.u64.wrap (ac + aa))))), .int .u64 (Go.bits .xor .u64 ak (IntKind.u64.wrap (ae + ad))), .int .u64 (IntKind.u64.wrap (ac + aa)), .int .u64 (Go.bits .xor .u64 ai (IntKind.u64.wrap (ac + aa)))]) ?_ 3 _ rfl; refine pk ?_; exact af.out⟩;have n1_ : Aside0 (((aA.setCell ⟨ag, 3, none⟩ (.int .u64 (Go.bits .xor .u64 ap (IntKind.u64.wrap (aj + (Go.bits .xor .u64 ai (IntKind.u64.wrap (ac + aa)))))))).setCell ⟨ag, 2, none⟩ (.int .u64 (IntKind.u64.wrap ((IntKind.u64.wrap (ac + aa)) + (Go.bits .xor .u64 ak (IntKind.u64.wrap (ae + ad))))))).heap[aq]? = some (.cells #[.int .u64 0, .int .u64 0, .int .u64 0, .int .u64 0] 82 (0, 0))) := ⟨(bf (f2 rfl) ah an.out).out⟩;have n2_ : Aside0 (Below w.heap.size w ((aA.setCell ⟨ag, 3, none⟩ (.int .u64 (Go.bits .xor .u64 ap (IntKind.u64.wrap (aj + (Go.bits .xor .u64 ai (IntKind.u64.wrap (ac + aa)))))))).setCell ⟨ag, 2, none⟩ (.int .u64 (IntKind.u64.wrap ((IntKind.u64.wrap (ac + aa)) + (Go.bits .xor .u64 ak (IntKind.u64.wrap (ae + ad)))))))) := ⟨pb HB⟩;clear af ah HB;generalize ((aA.setCell ⟨ag, 3, none⟩ (.int .u64 (Go.bits .xor .u64 ap (IntKind.u64.wrap (aj + (Go.bits .xor .u64 ai (IntKind.u64.wrap (ac + aa)))))))).setCell ⟨ag, 2, none⟩ (.int .u64 (IntKind.u64.wrap ((IntKind.u64.wrap (ac + aa)) + (Go.bits .xor .u64 ak (IntKind.u64.wrap (ae + ad))))))) = aX at n0_ n1_ n2_ ⊢;have af := n0_;have ah := n1_;have HB := n2_;clear n0_ n1_ n2_;replace af := am (blk_drew af.out);replace ah := am (blk_drew ah.out);replace HB := am (below_drew1 HB.out);refine start_ (n := 8) (S := fun w' => w'.cell? ⟨ag, 0, none⟩ = some (.int .u64 (IntKind.u64.wrap (aj + (Go.bits .xor .u64 ai (IntKind.u64.wrap (ac + aa)))))) ∧ ci w' ag 1 .u64 (Go.bits .xor .u64 ak (IntKind.u64.wrap (ae + ad))) ∧ w'.cell? ⟨ag, 2, none⟩ = some (.int .u64 (IntKind.u64.wrap ((IntKind.u64.wrap (ac + aa)) + (Go.bits .xor .u64 ak (IntKind.u64.wrap (ae + ad)))))) ∧ w'.cell? ⟨ag, 3, none⟩ = some (.int .u64 (Go.bits .xor .u64 ap (IntKind.u64.wrap (aj + (Go.bits .xor .u64 ai (IntKind.u64.wrap (ac + aa)))))))) (ds := [7]) #[bF, bF, bF, bF, bF, bF, bF, bF] (by kernel_rfl) rfl rfl (Q4 af) (fun hh => ?_); refine with_tabW r05_turns.tab12 r05_turns.bits12 (fun HT_ HW_ => ?_);generalize aX.drew = bi at af ah HB hh ⊢;refine P2 0 3 ?_;refine ta 1 hh ?_;refine ta 4 hh ?_;refine on1 2 (fun K hK => ?_);refine gs Try.func45 #[.int .u64 (Go.bits .xor .u64 ak (IntKind.u64.wrap (ae + ad))), .int .u64 17] ?_;(with_reducible refine (r05_left.calls (Go.bits .xor .u64 ak (IntKind.u64.wrap (ae + ad))) 17 ay _ aR.out).mono ?_);rintro e aY ⟨rfl, hb⟩;refine ⟨_, rfl, ?_⟩;replace af := kb af hb;replace ah := kb ah hb;replace HB := lb HB hb;clear hb;refine hK.out _ _ (Q4 af) (fun hh => ?_);clear hK K;refine nm ?_;refine P2 5 6 ?_;refine last_ (i := 7) (N := none) #[bT, bT, bT, bT, bT, bT, bT, bT] rfl rfl (one_of HT_.out (by kernel_rfl)) (by decide) (fun K hK => ?_);have bc : aY.cell? ⟨ag, 1, none⟩ = some (.int .u64 (Go.bits .xor .u64 ak (IntKind.u64.wrap (ae + ad)))) := ce af 1;have a7 := blk_frozen af.out 1;have aM := an.out;have hms34_1 := ao.out;refine skip_ (w1 := ?_) (by rfl) rfl ?_ ?_;rotate_left
    ·go_simp
     rfl
    refine hK.out _ _ ?_;clear hK K;refine done_ (done_of HT_.out (by kernel_rfl)) ?_;have aN := g4 af
    try go_wp2_with (first | (refine gl (some 69) Try.func45 #[.int .u64 (IntKind.u64.wrap ((IntKind.u64.wrap (ac + aa)) + (Go.bits .xor .u64 ak (IntKind.u64.wrap (ae + ad))))), .int .u64 32] ?_; (with_reducible refine (r05_left.calls (IntKind.u64.wrap ((IntKind.u64.wrap (ac + aa)) + (Go.bits .xor .u64 ak (IntKind.u64.wrap (ae + ad))))) 32 aC _ aS.out).mono ?_); rintro e bj ⟨rfl, hb⟩; refine ⟨_, rfl, ?_⟩; replace af := am (blk_below (g := ag) (o := .cells #[.int .u64 (IntKind.u64.wrap (aj + (Go.bits .xor .u64 ai (IntKind.u64.wrap (ac + aa))))), .int .u64 (Go.bits .xor .u64 ay (IntKind.u64.wrap ((IntKind.u64.wrap (ac + aa)) + (Go.bits .xor .u64 ak (IntKind.u64.wrap (ae + ad)))))), .int .u64 (IntKind.u64.wrap ((IntKind.u64.wrap (ac + aa)) + (Go.bits .xor .u64 ak (IntKind.u64.wrap (ae + ad))))), .int .u64 (Go.bits .xor .u64 ap (IntKind.u64.wrap (aj + (Go.bits .xor .u64 ai (IntKind.u64.wrap (ac + aa))))))] 82 (0, 0)) (by refine pk ?_; refine blk_put (cs := #[.int .u64 (IntKind.u64.wrap (aj + (Go.bits .xor .u64 ai (IntKind.u64.wrap (ac + aa))))), .int .u64 (Go.bits .xor .u64 ak (IntKind.u64.wrap (ae + ad))), .int .u64 (IntKind.u64.wrap ((IntKind.u64.wrap (ac + aa)) + (Go.bits .xor .u64 ak (IntKind.u64.wrap (ae + ad))))), .int .u64 (Go.bits .xor .u64 ap (IntKind.u64.wrap (aj + (Go.bits .xor .u64 ai (IntKind.u64.wrap (ac + aa))))))]) ?_ 1 _ rfl; refine pk ?_; exact af.out) hb); replace ah := am (blk_below (g := aq) (o := .cells #[.int .u64 0, .int .u64 0, .int .u64 0, .int .u64 0] 82 (0, 0)) ((bf (f1 rfl) ah an.out).out) hb); replace HB := lb HB hb; clear hb; have aO := g4 af))
    go_roundg k1
    case measure => have := HK1.out; omega
    case rel => exact ⟨(wrap64 (ar + 1)), (IntKind.u64.wrap (aj + (Go.bits .xor .u64 ai (IntKind.u64.wrap (ac + aa))))), (Go.bits .xor .u64 ay (IntKind.u64.wrap ((IntKind.u64.wrap (ac + aa)) + (Go.bits .xor .u64 ak (IntKind.u64.wrap (ae + ad)))))), (aC), (Go.bits .xor .u64 ap (IntKind.u64.wrap (aj + (Go.bits .xor .u64 ai (IntKind.u64.wrap (ac + aa)))))), eR, H', ⟨by have := HK1.out; omega⟩, ⟨by refine pk ?_; refine blk_put (cs := #[.int .u64 (IntKind.u64.wrap (aj + (Go.bits .xor .u64 ai (IntKind.u64.wrap (ac + aa))))), .int .u64 (Go.bits .xor .u64 ay (IntKind.u64.wrap ((IntKind.u64.wrap (ac + aa)) + (Go.bits .xor .u64 ak (IntKind.u64.wrap (ae + ad)))))), .int .u64 (IntKind.u64.wrap ((IntKind.u64.wrap (ac + aa)) + (Go.bits .xor .u64 ak (IntKind.u64.wrap (ae + ad))))), .int .u64 (Go.bits .xor .u64 ap (IntKind.u64.wrap (aj + (Go.bits .xor .u64 ai (IntKind.u64.wrap (ac + aa))))))]) ?_ 2 _ rfl; refine pk ?_; exact af.out⟩, ⟨(bf (f1 rfl) ah an.out).out⟩, ⟨pb HB⟩⟩
   ·rw [if_neg c5] at H;have aD := decide_eq_false c5;clear c5;obtain ⟨rfl, rfl, rfl, rfl⟩ := J4 H;have a8 := ao.out;have a9 := an.out;have aP := g4 af;have aQ := g4 ah;go_wp2;refine bodyPost_ret (results_cell_row rfl _ _ aq 82 #[.int .u64 ae, .int .u64 ad, .int .u64 ac, .int .u64 aa] (0, 0) _ rfl ((s4 rfl ah).out) Try.underlying82 rfl (by kernel_rfl)) rfl ?_;exact ey (h := pb HB)
set_option maxHeartbeats 400000000
set_option maxRecDepth 100000

mutual
def r05_Sum.l0 : Nat → ByteArray → Int → Int → Int → Int → Int → Option (Int)
 | 0, _, _, _, _, _, _ => none
 | k + 1, b, c, d, e, g, h => if c ≤ (b.size : Int) then (r05_Sum.l1 k b c 0 0 d e g h) else ((r05_turns.f k d e (Go.bits .xor .u64 g 255) h 4).bind fun a => (some (Go.bits .xor .u64 (Go.bits .xor .u64 (Go.bits .xor .u64 a.1 a.2.1) a.2.2.1) a.2.2.2)))
def r05_Sum.l1 : Nat → ByteArray → Int → Int → Int → Int → Int → Int → Int → Option (Int)
 | 0, _, _, _, _, _, _, _, _ => none
 | k + 1, b, c, d, e, g, h, i, j => if e < 8 then (if (wrap64 (c + e)) < (b.size : Int) then (if 0 ≤ (wrap64 (c + e)) then (if e = 7 then (if (wrap64 (c + 8)) > (b.size : Int) then (if 0 ≤ (IntKind.u64.wrap (wrap64 (8 * e))) then (r05_Sum.l1 k b c (Go.bits .or .u64 d (shl .u64 ((b.size : Int) % 256) (IntKind.u64.wrap (wrap64 (8 * e))))) (wrap64 (e + 1)) g h i j) else (none)) else (if 0 ≤ (IntKind.u64.wrap (wrap64 (8 * e))) then (r05_Sum.l1 k b c (Go.bits .or .u64 d (shl .u64 (IntKind.u64.wrap (bt b (wrap64 (c + e)))) (IntKind.u64.wrap (wrap64 (8 * e))))) (wrap64 (e + 1)) g h i j) else (none))) else (if 0 ≤ (IntKind.u64.wrap (wrap64 (8 * e))) then (r05_Sum.l1 k b c (Go.bits .or .u64 d (shl .u64 (IntKind.u64.wrap (bt b (wrap64 (c + e)))) (IntKind.u64.wrap (wrap64 (8 * e))))) (wrap64 (e + 1)) g h i j) else (none))) else (none)) else (if e = 7 then (if (wrap64 (c + 8)) > (b.size : Int) then (if 0 ≤ (IntKind.u64.wrap (wrap64 (8 * e))) then (r05_Sum.l1 k b c (Go.bits .or .u64 d (shl .u64 ((b.size : Int) % 256) (IntKind.u64.wrap (wrap64 (8 * e))))) (wrap64 (e + 1)) g h i j) else (none)) else (if 0 ≤ (IntKind.u64.wrap (wrap64 (8 * e))) then (r05_Sum.l1 k b c (Go.bits .or .u64 d (shl .u64 0 (IntKind.u64.wrap (wrap64 (8 * e))))) (wrap64 (e + 1)) g h i j) else (none))) else (if 0 ≤ (IntKind.u64.wrap (wrap64 (8 * e))) then (r05_Sum.l1 k b c (Go.bits .or .u64 d (shl .u64 0 (IntKind.u64.wrap (wrap64 (8 * e))))) (wrap64 (e + 1)) g h i j) else (none)))) else ((r05_turns.f k g h i (Go.bits .xor .u64 j d) 2).bind fun a => (r05_Sum.l0 k b (wrap64 (c + 8)) (Go.bits .xor .u64 a.1 d) a.2.1 a.2.2.1 a.2.2.2))
end
def r05_Sum.f (k : Nat) (a b : Int) (c : ByteArray) : Option (Int) := r05_Sum.l0 k c 0 (Go.bits .xor .u64 a 8317987319222330741) (Go.bits .xor .u64 b 7237128888997146477) (Go.bits .xor .u64 a 7816392313619706465) (Go.bits .xor .u64 b 8387220255154660723)
theorem r05_Sum.mono_l : ∀ k, (∀ y0 y1 y2 y3 y4 y5, LeO (r05_Sum.l0 k y0 y1 y2 y3 y4 y5) (r05_Sum.l0 (k + 1) y0 y1 y2 y3 y4 y5)) ∧ (∀ y0 y1 y2 y3 y4 y5 y6 y7, LeO (r05_Sum.l1 k y0 y1 y2 y3 y4 y5 y6 y7) (r05_Sum.l1 (k + 1) y0 y1 y2 y3 y4 y5 y6 y7))
 | 0 => ⟨fun _ _ _ _ _ _ r h => by simp [r05_Sum.l0] at h, fun _ _ _ _ _ _ _ _ r h => by simp [r05_Sum.l1] at h⟩
 | k + 1 => by
  obtain ⟨ih0, ih1⟩ := r05_Sum.mono_l k;refine ⟨?_, ?_⟩
  ·intro y0 y1 y2 y3 y4 y5
   unfold r05_Sum.l0
   with_reducible repeat' first | apply ih0 | apply ih1 | apply r05_turns.mono | exact LeO.refl _ | exact LeO.none _ | refine LeO.ite ?_ ?_ | refine LeO.bind ?_ (fun _ => ?_)
  ·intro y0 y1 y2 y3 y4 y5 y6 y7
   unfold r05_Sum.l1
   with_reducible repeat' first | apply ih0 | apply ih1 | apply r05_turns.mono | exact LeO.refl _ | exact LeO.none _ | refine LeO.ite ?_ ?_ | refine LeO.bind ?_ (fun _ => ?_)
theorem r05_Sum.mono : ∀ a0 a1 a2 k, LeO (r05_Sum.f k a0 a1 a2) (r05_Sum.f (k + 1) a0 a1 a2) := by
 intro a0 a1 a2 k;obtain ⟨ih0, ih1⟩ := r05_Sum.mono_l k
 unfold r05_Sum.f
 with_reducible repeat' first | apply ih0 | apply ih1 | apply r05_turns.mono | exact LeO.refl _ | exact LeO.none _ | refine LeO.ite ?_ ?_ | refine LeO.bind ?_ (fun _ => ?_)
theorem r05_Sum.calls (k : Nat) (ao ap : Int) (a1 : ByteArray) (r : Int) (w : World) (h : r05_Sum.f k ao ap a1 = some r) :
  Calls Try.prog 11 #[.agg #[.int .u64 ao, .int .u64 ap], .string a1] w fun e w' => e = .returned (.int .u64 r) ∧ Below w.heap.size w w' := by
 have hu24 := Try.underlying24;have hu82 := Try.underlying82;have HB := am (Below.refl w.heap.size w);unfold r05_Sum.f at h;have H := h;clear h;have H' := am H;clear H
 go_enter Try.func11, Try.ntmps11;go_wp2_with (first | ((try (refine gate_guard (by rfl) ?_; dsimp only)); refine bE 2 #[.int .u64 ao, .int .u64 ap] 24 ?_; intro aw hg w3 ag hb; have bm := gq hg HB; replace HB := lb HB hb; clear hb hg; have aK := g2 ag) | ((try (refine gate_guard (by rfl) ?_; dsimp only)); refine bE 5 #[.int .u64 0, .int .u64 0, .int .u64 0, .int .u64 0] 82 ?_; intro ax hg w5 af hb; have bn := gq hg HB; replace HB := lb HB hb; obtain ⟨an, ar, bJ, bK⟩ := pm hg ag; replace ag := kb ag hb; clear hb hg; have aL := g4 af))
 go_loopg [6] k (fun kq v6 w' => ∃ (ak ae ad ac aa : Int), v6 = .int .i64 ak ∧ Aside0 (r05_Sum.l0 kq a1 ak ae ad ac aa = some r) ∧ Aside0 (kq ≤ k) ∧ Aside0 (w'.heap[aw]? = some (.cells #[.int .u64 ao, .int .u64 ap] 24 (0, 0))) ∧ Aside0 (w'.heap[ax]? = some (.cells #[.int .u64 ae, .int .u64 ad, .int .u64 ac, .int .u64 aa] 82 (0, 0))) ∧ Aside0 (Below w.heap.size w w'))
 case atStart => exact ⟨(0), (Go.bits .xor .u64 ao 8317987319222330741), (Go.bits .xor .u64 ap 7237128888997146477), (Go.bits .xor .u64 ao 7816392313619706465), (Go.bits .xor .u64 ap 8387220255154660723), eR, H', ⟨Nat.le_refl _⟩, ⟨(bf (f4 rfl) ag an.out).out⟩, ⟨(s4 rfl af).out⟩, ⟨pb HB⟩⟩
 case round =>
  clear H' aK aL;obtain ⟨ak, ae, ad, ac, aa, rfl, HA, HK1, ag, af, HB⟩ := hrel
  cases gk with
  | zero => exact absurd HA.out (by simp [r05_Sum.l0])
  | succ k1 =>
   have H := HA.out;clear HA;simp only [r05_Sum.l0] at H
   by_cases c8 : ak ≤ (a1.size : Int)
   ·rw [if_pos c8] at H;have a2 := decide_eq_true c8;clear c8;have H' := am H;clear H;go_wp2
    go_loopg [7, 8] k1 (fun kq v7 v8 w' => ∃ (ai ah : Int), v7 = .int .u64 ai ∧ v8 = .int .i64 ah ∧ Aside0 (r05_Sum.l1 kq a1 ak ai ah ae ad ac aa = some r) ∧ Aside0 (kq ≤ k1) ∧ Aside0 (w'.heap[aw]? = some (.cells #[.int .u64 ao, .int .u64 ap] 24 (0, 0))) ∧ Aside0 (w'.heap[ax]? = some (.cells #[.int .u64 ae, .int .u64 ad, .int .u64 ac, .int .u64 aa] 82 (0, 0))) ∧ Aside0 (Below w.heap.size w w'))
    case atStart => exact ⟨(0), (0), eR, eR, H', ⟨Nat.le_refl _⟩, ⟨pk ag.out⟩, ⟨pk af.out⟩, ⟨pb HB⟩⟩
    case round =>
     clear H' a2;obtain ⟨ai, ah, rfl, rfl, HA, HK2, ag, af, HB⟩ := hrel
     cases gk with
     | zero => exact absurd HA.out (by simp [r05_Sum.l1])
     | succ k2 =>
      have H := HA.out;clear HA;simp only [r05_Sum.l1] at H
      by_cases c9 : ah < 8
      ·rw [if_pos c9] at H;have a_ := decide_eq_true c9;clear c9
       by_cases c10 : (wrap64 (ak + ah)) < (a1.size : Int)
       ·rw [if_pos c10] at H;have aZ := decide_eq_true c10;clear c10;obtain ⟨aj, hji11⟩ : ∃ j_ : Int, (wrap64 (ak + ah)) = j_ := ⟨_, rfl⟩;rw [hji11] at H;(try rw [hji11] at aZ);have hji11w : (IntKind.i64.wrap (ak + ah)) = aj := (i64_w _).trans hji11
        by_cases a0 : 0 ≤ (aj)
        ·rw [if_pos a0] at H;have bo := decide_eq_true a0;clear a0
         by_cases ay : ah = 7
         ·rw [if_pos ay] at H;have a4 := beq_iff_eq.mpr ay;have a5 := bne_eq_false_iff_eq.mpr ay;clear ay
          by_cases aH : (wrap64 (ak + 8)) > (a1.size : Int)
          ·rw [if_pos aH] at H;have a6 : decide ((a1.size : Int) < (wrap64 (ak + 8))) = true := decide_eq_true aH;clear aH;obtain ⟨az, hji16⟩ : ∃ j_ : Int, (IntKind.u64.wrap (wrap64 (8 * ah))) = j_ := ⟨_, rfl⟩;rw [hji16] at H
           by_cases aM : 0 ≤ (az)
           ·rw [if_pos aM] at H;have bp := eq_true aM;have bq := decide_eq_true aM;clear aM;obtain ⟨aS, hji18⟩ : ∃ j_ : Int, (shl .u64 ((a1.size : Int) % 256) (az)) = j_ := ⟨_, rfl⟩;rw [hji18] at H;have hji18_ : (IntKind.u64.wrap (((a1.size : Int) % 256) * 2 ^ min (az).toNat 64)) = aS := hji18;have hji18z : (az) ≤ 64 → (IntKind.u64.wrap (((a1.size : Int) % 256) * 2 ^ (az).toNat)) = aS := shl_small hji18;have H' := am H;clear H;have au : 0 ≤ ((aj) : Int) := od;have av : (aj) < (a1.size : Int) := od;have a3 := bt_at a1 (aj);replace au := eq_true au;replace av := eq_true av;go_wp2
            go_roundg k2
            case measure => have := HK1.out; have := HK2.out; omega
            case rel => exact ⟨(Go.bits .or .u64 ai (aS)), (wrap64 (ah + 1)), (by first | rfl | (simp; done) | (simp only [← hji18] <;> (first | rfl | (simp; done) | (simp [show ∀ j_ : Int, shl .u64 0 j_ = 0 from fun j_ => by unfold shl; rw [Int.zero_mul]; decide]; done))) | (simp [*]; done)), eR, H', ⟨by have := HK1.out; have := HK2.out; omega⟩, ⟨pk ag.out⟩, ⟨pk af.out⟩, ⟨pb HB⟩⟩
           ·exact (na aM H).elim
          ·rw [if_neg aH] at H;have a6 : decide ((a1.size : Int) < (wrap64 (ak + 8))) = false := decide_eq_false aH;clear aH;obtain ⟨aA, hji19⟩ : ∃ j_ : Int, (IntKind.u64.wrap (wrap64 (8 * ah))) = j_ := ⟨_, rfl⟩;rw [hji19] at H
           by_cases aN : 0 ≤ (aA)
           ·rw [if_pos aN] at H;have br := eq_true aN;have bs := decide_eq_true aN;clear aN;obtain ⟨aT, hji21⟩ : ∃ j_ : Int, (shl .u64 (IntKind.u64.wrap (bt a1 (aj))) (aA)) = j_ := ⟨_, rfl⟩;rw [hji21] at H;have hji21_ : (IntKind.u64.wrap ((IntKind.u64.wrap (bt a1 (aj))) * 2 ^ min (aA).toNat 64)) = aT := hji21;have hji21z : (aA) ≤ 64 → (IntKind.u64.wrap ((IntKind.u64.wrap (bt a1 (aj))) * 2 ^ (aA).toNat)) = aT := shl_small hji21;have H' := am H;clear H;have au : 0 ≤ ((aj) : Int) := od;have av : (aj) < (a1.size : Int) := od;have a3 := bt_at a1 (aj);replace au := eq_true au;replace av := eq_true av;go_wp2
            go_roundg k2
            case measure => have := HK1.out; have := HK2.out; omega
            case rel => exact ⟨(Go.bits .or .u64 ai (aT)), (wrap64 (ah + 1)), (by first | rfl | (simp; done) | (simp only [← hji21] <;> (first | rfl | (simp; done) | (simp [show ∀ j_ : Int, shl .u64 0 j_ = 0 from fun j_ => by unfold shl; rw [Int.zero_mul]; decide]; done))) | (simp [*]; done)), eR, H', ⟨by have := HK1.out; have := HK2.out; omega⟩, ⟨pk ag.out⟩, ⟨pk af.out⟩, ⟨pb HB⟩⟩
           ·exact (na aN H).elim
         ·rw [if_neg ay] at H;have a4 := beq_eq_false_iff_ne.mpr ay;have a5 := bne_iff_ne.mpr ay;obtain ⟨aB, hji22⟩ : ∃ j_ : Int, (IntKind.u64.wrap (wrap64 (8 * ah))) = j_ := ⟨_, rfl⟩;rw [hji22] at H
          by_cases aO : 0 ≤ (aB)
          ·rw [if_pos aO] at H;have bu := eq_true aO;have bv := decide_eq_true aO;clear aO;obtain ⟨aU, hji24⟩ : ∃ j_ : Int, (shl .u64 (IntKind.u64.wrap (bt a1 (aj))) (aB)) = j_ := ⟨_, rfl⟩;rw [hji24] at H;have hji24_ : (IntKind.u64.wrap ((IntKind.u64.wrap (bt a1 (aj))) * 2 ^ min (aB).toNat 64)) = aU := hji24;have hji24z : (aB) ≤ 64 → (IntKind.u64.wrap ((IntKind.u64.wrap (bt a1 (aj))) * 2 ^ (aB).toNat)) = aU := shl_small hji24;have H' := am H;clear H;have au : 0 ≤ ((aj) : Int) := od;have av : (aj) < (a1.size : Int) := od;have a3 := bt_at a1 (aj);replace au := eq_true au;replace av := eq_true av;go_wp2
           go_roundg k2
           case measure => have := HK1.out; have := HK2.out; omega
           case rel => exact ⟨(Go.bits .or .u64 ai (aU)), (wrap64 (ah + 1)), (by first | rfl | (simp; done) | (simp only [← hji24] <;> (first | rfl | (simp; done) | (simp [show ∀ j_ : Int, shl .u64 0 j_ = 0 from fun j_ => by unfold shl; rw [Int.zero_mul]; decide]; done))) | (simp [*]; done)), eR, H', ⟨by have := HK1.out; have := HK2.out; omega⟩, ⟨pk ag.out⟩, ⟨pk af.out⟩, ⟨pb HB⟩⟩
          ·exact (na aO H).elim
        ·exact (na a0 H).elim
       ·rw [if_neg c10] at H;have aZ := decide_eq_false c10;clear c10
        by_cases aC : ah = 7
        ·rw [if_pos aC] at H;have a7 := beq_iff_eq.mpr aC;have a8 := bne_eq_false_iff_eq.mpr aC;clear aC
         by_cases aI : (wrap64 (ak + 8)) > (a1.size : Int)
         ·rw [if_pos aI] at H;have a9 : decide ((a1.size : Int) < (wrap64 (ak + 8))) = true := decide_eq_true aI;clear aI;obtain ⟨aD, hji27⟩ : ∃ j_ : Int, (IntKind.u64.wrap (wrap64 (8 * ah))) = j_ := ⟨_, rfl⟩;rw [hji27] at H
          by_cases aP : 0 ≤ (aD)
          ·rw [if_pos aP] at H;have bw := eq_true aP;have bz := decide_eq_true aP;clear aP;obtain ⟨aV, hji29⟩ : ∃ j_ : Int, (shl .u64 ((a1.size : Int) % 256) (aD)) = j_ := ⟨_, rfl⟩;rw [hji29] at H;have hji29_ : (IntKind.u64.wrap (((a1.size : Int) % 256) * 2 ^ min (aD).toNat 64)) = aV := hji29;have hji29z : (aD) ≤ 64 → (IntKind.u64.wrap (((a1.size : Int) % 256) * 2 ^ (aD).toNat)) = aV := shl_small hji29;have H' := am H;clear H;go_wp2
           go_roundg k2
           case measure => have := HK1.out; have := HK2.out; omega
           case rel => exact ⟨(Go.bits .or .u64 ai (aV)), (wrap64 (ah + 1)), (by first | rfl | (simp; done) | (simp only [← hji29] <;> (first | rfl | (simp; done) | (simp [show ∀ j_ : Int, shl .u64 0 j_ = 0 from fun j_ => by unfold shl; rw [Int.zero_mul]; decide]; done))) | (simp [*]; done)), eR, H', ⟨by have := HK1.out; have := HK2.out; omega⟩, ⟨pk ag.out⟩, ⟨pk af.out⟩, ⟨pb HB⟩⟩
          ·exact (na aP H).elim
         ·rw [if_neg aI] at H;have a9 : decide ((a1.size : Int) < (wrap64 (ak + 8))) = false := decide_eq_false aI;clear aI;obtain ⟨aE, hji30⟩ : ∃ j_ : Int, (IntKind.u64.wrap (wrap64 (8 * ah))) = j_ := ⟨_, rfl⟩;rw [hji30] at H
          by_cases aQ : 0 ≤ (aE)
          ·rw [if_pos aQ] at H;have bA := eq_true aQ;have bB := decide_eq_true aQ;clear aQ;obtain ⟨aW, hji32⟩ : ∃ j_ : Int, (shl .u64 0 (aE)) = j_ := ⟨_, rfl⟩;rw [hji32] at H;have hji32_ : (IntKind.u64.wrap (0 * 2 ^ min (aE).toNat 64)) = aW := hji32;have hji32z : (aE) ≤ 64 → (IntKind.u64.wrap (0 * 2 ^ (aE).toNat)) = aW := shl_small hji32;have H' := am H;clear H;go_wp2
           go_roundg k2
           case measure => have := HK1.out; have := HK2.out; omega
           case rel => exact ⟨(Go.bits .or .u64 ai (aW)), (wrap64 (ah + 1)), (by first | rfl | (simp; done) | (simp only [← hji32] <;> (first | rfl | (simp; done) | (simp [show ∀ j_ : Int, shl .u64 0 j_ = 0 from fun j_ => by unfold shl; rw [Int.zero_mul]; decide]; done))) | (simp [*]; done)), eR, H', ⟨by have := HK1.out; have := HK2.out; omega⟩, ⟨pk ag.out⟩, ⟨pk af.out⟩, ⟨pb HB⟩⟩
          ·exact (na aQ H).elim
        ·rw [if_neg aC] at H;have a7 := beq_eq_false_iff_ne.mpr aC;have a8 := bne_iff_ne.mpr aC;obtain ⟨aF, hji33⟩ : ∃ j_ : Int, (IntKind.u64.wrap (wrap64 (8 * ah))) = j_ := ⟨_, rfl⟩;rw [hji33] at H
         by_cases aR : 0 ≤ (aF)
         ·rw [if_pos aR] at H;have bC := eq_true aR;have bD := decide_eq_true aR;clear aR;obtain ⟨aX, hji35⟩ : ∃ j_ : Int, (shl .u64 0 (aF)) = j_ := ⟨_, rfl⟩;rw [hji35] at H;have hji35_ : (IntKind.u64.wrap (0 * 2 ^ min (aF).toNat 64)) = aX := hji35;have hji35z : (aF) ≤ 64 → (IntKind.u64.wrap (0 * 2 ^ (aF).toNat)) = aX := shl_small hji35;have H' := am H;clear H;go_wp2
          go_roundg k2
          case measure => have := HK1.out; have := HK2.out; omega
          case rel => exact ⟨(Go.bits .or .u64 ai (aX)), (wrap64 (ah + 1)), (by first | rfl | (simp; done) | (simp only [← hji35] <;> (first | rfl | (simp; done) | (simp [show ∀ j_ : Int, shl .u64 0 j_ = 0 from fun j_ => by unfold shl; rw [Int.zero_mul]; decide]; done))) | (simp [*]; done)), eR, H', ⟨by have := HK1.out; have := HK2.out; omega⟩, ⟨pk ag.out⟩, ⟨pk af.out⟩, ⟨pb HB⟩⟩
         ·exact (na aR H).elim
      ·rw [if_neg c9] at H;have a_ := decide_eq_false c9;clear c9;obtain ⟨⟨aq, aG, aJ, aY⟩, bk, H⟩ := ob H;(try dsimp only at H);have H' := am H;clear H;have bF := ar.out;have bG := an.out;have bg := g4 af;go_wp2_with (first | (refine gl (some 71) Try.func30 #[.agg #[.int .u64 ae, .int .u64 ad, .int .u64 ac, .int .u64 (Go.bits .xor .u64 aa ai)], .int .i64 2] ?_; (with_reducible refine (r05_turns.calls k2 ae ad ac (Go.bits .xor .u64 aa ai) 2 aq aG aJ aY _ bk.out).mono ?_); rintro e bL ⟨rfl, hb⟩; refine ⟨_, rfl, ?_⟩; replace ag := am (blk_below (g := aw) (o := .cells #[.int .u64 ao, .int .u64 ap] 24 (0, 0)) ((bf (f1 rfl) ag an.out).out) hb); replace af := am (blk_below (g := ax) (o := .cells #[.int .u64 ae, .int .u64 ad, .int .u64 ac, .int .u64 (Go.bits .xor .u64 aa ai)] 82 (0, 0)) (by refine pk ?_; refine blk_put (cs := #[.int .u64 ae, .int .u64 ad, .int .u64 ac, .int .u64 aa]) ?_ 3 _ rfl; refine pk ?_; exact af.out) hb); replace HB := lb HB hb; clear hb; have bh := g4 af))
       go_roundg k2
       case measure => have := HK1.out; have := HK2.out; omega
       case rel => exact ⟨(wrap64 (ak + 8)), (Go.bits .xor .u64 aq ai), (aG), (aJ), (aY), eR, H', ⟨by have := HK1.out; have := HK2.out; omega⟩, ⟨(bf (f5 rfl) ag an.out).out⟩, ⟨by refine pk ?_; refine blk_put (cs := #[.int .u64 aq, .int .u64 aG, .int .u64 aJ, .int .u64 aY]) ?_ 0 _ rfl; refine pk ?_; refine blk_put (cs := #[.int .u64 aq, .int .u64 aG, .int .u64 aJ, .int .u64 (Go.bits .xor .u64 aa ai)]) ?_ 3 _ rfl; refine pk ?_; refine blk_put (cs := #[.int .u64 aq, .int .u64 aG, .int .u64 ac, .int .u64 (Go.bits .xor .u64 aa ai)]) ?_ 2 _ rfl; refine pk ?_; refine blk_put (cs := #[.int .u64 aq, .int .u64 ad, .int .u64 ac, .int .u64 (Go.bits .xor .u64 aa ai)]) ?_ 1 _ rfl; refine pk ?_; refine blk_put (cs := #[.int .u64 ae, .int .u64 ad, .int .u64 ac, .int .u64 (Go.bits .xor .u64 aa ai)]) ?_ 0 _ rfl; refine pk ?_; exact af.out⟩, ⟨pb HB⟩⟩
   ·rw [if_neg c8] at H;have a2 := decide_eq_false c8;clear c8;obtain ⟨⟨ba, bb, bc, bd⟩, bl, H⟩ := ob H;(try dsimp only at H);obtain rfl := Option.some.inj H;have bH := ar.out;have bI := an.out;have bi := g4 af;go_wp2_with (first | (refine gl (some 82) Try.func30 #[.agg #[.int .u64 ae, .int .u64 ad, .int .u64 (Go.bits .xor .u64 ac 255), .int .u64 aa], .int .i64 4] ?_; (with_reducible refine (r05_turns.calls k1 ae ad (Go.bits .xor .u64 ac 255) aa 4 ba bb bc bd _ bl.out).mono ?_); rintro e bM ⟨rfl, hb⟩; refine ⟨_, rfl, ?_⟩; replace ag := am (blk_below (g := aw) (o := .cells #[.int .u64 ao, .int .u64 ap] 24 (0, 0)) ((bf (f1 rfl) ag an.out).out) hb); replace af := am (blk_below (g := ax) (o := .cells #[.int .u64 ae, .int .u64 ad, .int .u64 (Go.bits .xor .u64 ac 255), .int .u64 aa] 82 (0, 0)) (by refine pk ?_; refine blk_put (cs := #[.int .u64 ae, .int .u64 ad, .int .u64 ac, .int .u64 aa]) ?_ 2 _ rfl; refine pk ?_; exact af.out) hb); replace HB := lb HB hb; clear hb; have bj := g4 af));go_ret;exact ey (h := pb HB)
def r14_Ahead.f (a : ByteArray) (b c d : Int) (e : ByteArray) (g h i : Int) : Option (Bool) := if b = g then (some (Op.bytesLess a.toList e.toList)) else (some (decide (b < g)))
theorem r14_Ahead.calls (ae : ByteArray) (ac af ag : Int) (ah : ByteArray) (ad ai aj : Int) (r : Bool) (w : World) (h : r14_Ahead.f ae ac af ag ah ad ai aj = some r) :
  Calls Try.prog 54 #[.agg #[.string ae, .int .u64 ac, .int .u64 af, .int .u64 ag], .agg #[.string ah, .int .u64 ad, .int .u64 ai, .int .u64 aj]] w fun e w' => e = .returned (.bool r) ∧ Below w.heap.size w w' := by
 have hu68 := Try.underlying68;have HB := am (Below.refl w.heap.size w);unfold r14_Ahead.f at h;have H := h;clear h
 by_cases c3 : ac = ad
 ·rw [if_pos c3] at H;have av := beq_iff_eq.mpr c3;have aw := bne_eq_false_iff_eq.mpr c3;clear c3;obtain rfl := Option.some.inj H;go_enter Try.func54, Try.ntmps54;go_wp2_with (first | (refine bE 2 #[.string ae, .int .u64 ac, .int .u64 af, .int .u64 ag] 68 ?_; intro ap hg w4 aa hb; have aq := gq hg HB; replace HB := lb HB hb; clear hb hg) | (refine bE 3 #[.string ah, .int .u64 ad, .int .u64 ai, .int .u64 aj] 68 ?_; intro ar hg w5 ak hb; have au := gq hg HB; replace HB := lb HB hb; obtain ⟨an, ao, aD, aE⟩ := pm hg aa; replace aa := kb aa hb; clear hb hg; have az := g4 aa; have aA := g4 ak));go_ret;exact ey (h := pb HB)
 rw [if_neg c3] at H;have av := beq_eq_false_iff_ne.mpr c3;have aw := bne_iff_ne.mpr c3;obtain rfl := Option.some.inj H;go_enter Try.func54, Try.ntmps54;go_wp2_with (first | (refine bE 2 #[.string ae, .int .u64 ac, .int .u64 af, .int .u64 ag] 68 ?_; intro ap hg w9 aa hb; have aq := gq hg HB; replace HB := lb HB hb; clear hb hg) | (refine bE 3 #[.string ah, .int .u64 ad, .int .u64 ai, .int .u64 aj] 68 ?_; intro ar hg aF ak hb; have au := gq hg HB; replace HB := lb HB hb; obtain ⟨an, ao, aB, aC⟩ := pm hg aa; replace aa := kb aa hb; clear hb hg; have ax := g4 aa; have ay := g4 ak));go_ret;exact ey (h := pb HB)
section
set_option maxHeartbeats 400000000
set_option maxRecDepth 100000

attribute [local go_sem high] eqA65
mutual
def r14_Right.j0 : Nat → Bool → Int → Int → Int → List (S68) → Option (Bool)
 | 0, _, _, _, _, _ => none
 | k + 1, a, b, c, d, e => if a = true then (some false) else (r14_Right.l0 k 0 b c d e)
def r14_Right.l0 : Nat → Int → Int → Int → Int → List (S68) → Option (Bool)
 | 0, _, _, _, _, _ => none
 | k + 1, b, c, d, e, g => if b < (g.length : Int) then (if 0 ≤ b then (if (((rd_T68 g b).f0).size : Int) > 64 then (r14_Right.j2 k b true c d e g ((rd_T68 g b).f0) ((rd_T68 g b).f1) ((rd_T68 g b).f2.f0) ((rd_T68 g b).f2.f1)) else ((r05_Sum.f k c d ((rd_T68 g b).f0)).bind fun a => (if ((rd_T68 g b).f1) = a then (r14_Right.j2 k b (((rd_T68 g b).f2.f0) == 0 && (((rd_T68 g b).f2.f1) == 0)) c d e g ((rd_T68 g b).f0) ((rd_T68 g b).f1) ((rd_T68 g b).f2.f0) ((rd_T68 g b).f2.f1)) else (r14_Right.j2 k b true c d e g ((rd_T68 g b).f0) ((rd_T68 g b).f1) ((rd_T68 g b).f2.f0) ((rd_T68 g b).f2.f1))))) else (none)) else (some true)
def r14_Right.j2 : Nat → Int → Bool → Int → Int → Int → List (S68) → ByteArray → Int → Int → Int → Option (Bool)
 | 0, _, _, _, _, _, _, _, _, _, _ => none
 | k + 1, b, c, d, e, g, h, i, j, l, m => if c = true then (some false) else (if b > 0 then (if 0 ≤ (wrap64 (b - 1)) then (if (wrap64 (b - 1)) < (h.length : Int) then ((r14_Ahead.f ((rd_T68 h (wrap64 (b - 1))).f0) ((rd_T68 h (wrap64 (b - 1))).f1) ((rd_T68 h (wrap64 (b - 1))).f2.f0) ((rd_T68 h (wrap64 (b - 1))).f2.f1) i j l m).bind fun a => (if a = true then (r14_Right.l0 k (wrap64 (b + 1)) d e g h) else (some false))) else (none)) else (none)) else (r14_Right.l0 k (wrap64 (b + 1)) d e g h))
end
def r14_Right.f (k : Nat) (a b c : Int) (d : List (S68)) : Option (Bool) := if c < 1 then (r14_Right.j0 k true a b c d) else (if c > 1024 then (r14_Right.j0 k true a b c d) else (r14_Right.j0 k (decide ((d.length : Int) > (wrap64 (c + 1)))) a b c d))
theorem r14_Right.mono_l : ∀ k, (∀ y0 y1 y2 y3 y4, LeO (r14_Right.j0 k y0 y1 y2 y3 y4) (r14_Right.j0 (k + 1) y0 y1 y2 y3 y4)) ∧ (∀ y0 y1 y2 y3 y4, LeO (r14_Right.l0 k y0 y1 y2 y3 y4) (r14_Right.l0 (k + 1) y0 y1 y2 y3 y4)) ∧ (∀ y0 y1 y2 y3 y4 y5 y6 y7 y8 y9, LeO (r14_Right.j2 k y0 y1 y2 y3 y4 y5 y6 y7 y8 y9) (r14_Right.j2 (k + 1) y0 y1 y2 y3 y4 y5 y6 y7 y8 y9))
 | 0 => ⟨fun _ _ _ _ _ r h => by simp [r14_Right.j0] at h, fun _ _ _ _ _ r h => by simp [r14_Right.l0] at h, fun _ _ _ _ _ _ _ _ _ _ r h => by simp [r14_Right.j2] at h⟩
 | k + 1 => by
  obtain ⟨ih0, ih1, ih2⟩ := r14_Right.mono_l k;refine ⟨?_, ?_, ?_⟩
  ·intro y0 y1 y2 y3 y4
   unfold r14_Right.j0
   with_reducible repeat' first | apply ih0 | apply ih1 | apply ih2 | apply r05_Sum.mono | exact LeO.refl _ | exact LeO.none _ | refine LeO.ite ?_ ?_ | refine LeO.bind ?_ (fun _ => ?_)
  ·intro y0 y1 y2 y3 y4
   unfold r14_Right.l0
   with_reducible repeat' first | apply ih0 | apply ih1 | apply ih2 | apply r05_Sum.mono | exact LeO.refl _ | exact LeO.none _ | refine LeO.ite ?_ ?_ | refine LeO.bind ?_ (fun _ => ?_)
  ·intro y0 y1 y2 y3 y4 y5 y6 y7 y8 y9
   unfold r14_Right.j2
   with_reducible repeat' first | apply ih0 | apply ih1 | apply ih2 | apply r05_Sum.mono | exact LeO.refl _ | exact LeO.none _ | refine LeO.ite ?_ ?_ | refine LeO.bind ?_ (fun _ => ?_)
theorem r14_Right.mono : ∀ a0 a1 a2 a3 k, LeO (r14_Right.f k a0 a1 a2 a3) (r14_Right.f (k + 1) a0 a1 a2 a3) := by
 intro a0 a1 a2 a3 k;obtain ⟨ih0, ih1, ih2⟩ := r14_Right.mono_l k
 unfold r14_Right.f
 with_reducible repeat' first | apply ih0 | apply ih1 | apply ih2 | apply r05_Sum.mono | exact LeO.refl _ | exact LeO.none _ | refine LeO.ite ?_ ?_ | refine LeO.bind ?_ (fun _ => ?_)
def r14_Right.T8 : DT := (true, [dz, dd [0], dd [1], dd [2], dd [3], dd [4], ([5, 4], [4, 5]), dd [4], ([7, 4], [4, 7]), dd [4], ([9, 4], [4, 9]), ([8, 10, 4, 4], [4, 8, 10]), ([6, 11, 4], [4, 6, 11]), dd [4, 12], ([13, 11], [13]), dd [14], ([15, 14], [14, 15]), dd [14], ([16, 17, 14], [14, 16, 17]), dd [14, 18]])
def r14_Right.B8 : List Nat := [0, 1, 3, 7, 15, 31, 63, 31, 159, 31, 543, 1951, 4095, 8191, 16383, 32767, 65535, 32767, 262143, 524287]
theorem r14_Right.tab8 : rtab .any (opsOf Try.f36 8) = r14_Right.T8 := by kernel_rfl
theorem r14_Right.bits8 : waitsOk r14_Right.T8.2 r14_Right.B8 = true := by kernel_rfl
def r14_Right.T10 : DT := (true, [dz, dd [0], dd [1], dd [2], ([3, 2], [2, 3]), dd [2], ([5, 2], [2, 5]), ([4, 6, 2], [2, 4, 6]), ([7, 2], [2, 7]), dd [2], ([8, 9, 2, 2], [2, 8, 9]), ([10, 2], [2, 10]), dd [2, 11]])
def r14_Right.B10 : List Nat := [0, 1, 3, 7, 15, 7, 39, 127, 255, 7, 1023, 2047, 4095]
theorem r14_Right.tab10 : rtab .any (opsOf Try.f36 10) = r14_Right.T10 := by kernel_rfl
theorem r14_Right.bits10 : waitsOk r14_Right.T10.2 r14_Right.B10 = true := by kernel_rfl
theorem r14_Right.calls (k : Nat) (an ao ak : Int) (aG : Option Addr) (ar : Nat) (aa : List (S68)) (r : Bool) (w : World) (a6 : Kd.C k68 w aG aa.length aa) (a7 : aa.length ≤ ar) (h : r14_Right.f k an ao ak aa = some r) :
  Calls Try.prog 36 #[.agg #[.int .u64 an, .int .u64 ao, .int .i64 ak, .slice aG aa.length ar]] w fun e w' => e = .returned (.bool r) ∧ Below w.heap.size w w' := by
 have hu60 := Try.underlying60;have hu68 := Try.underlying68;have hu65 := Try.underlying65;have hu24 := Try.underlying24;have a8 := am a6;have bD := am a7;clear a6 a7;have HB := am (Below.refl w.heap.size w);unfold r14_Right.f at h;have H := h;clear h;have bj := am H;clear H
 go_enter Try.func36, Try.ntmps36;go_upto_region 1 with (first | ((try (refine gate_guard (by rfl) ?_; dsimp only)); refine bE 1 #[.int .u64 an, .int .u64 ao, .int .i64 ak, .slice aG aa.length ar] 60 ?_; intro ah hg w3 ad hb; have bG := gq hg HB; replace HB := lb HB hb; clear hb hg));(try simp only [Act.put, List.setIfInBounds_toArray, List.set_cons_zero, List.set_cons_succ])
 go_cut [22] (fun bA wc => ∃ (kq : Nat) (aF : Bool), bA = .bool aF ∧ Aside0 (r14_Right.j0 kq aF an ao ak aa = some r) ∧ Aside0 (kq ≤ k) ∧ Aside0 (wc.heap[ah]? = some (.cells #[.int .u64 an, .int .u64 ao, .int .i64 ak, (.slice aG aa.length ar)] 60 (0, 0))) ∧ Aside0 (Below w.heap.size w wc))
 case first =>
  have H := bj.out;clear bj
  by_cases c4 : ak < 1
  ·rw [if_pos c4] at H;have aC := decide_eq_true c4;clear c4;(first | rw [aC] | (simp only [i64_w, i32_w]; rw [aC]) | skip);have H' := am H;clear H;have aV := g4 ad;go_wp2;go_meet
   case rel => exact ⟨_, (true), eR, H', el, ⟨pk ad.out⟩, ⟨pb HB⟩⟩
  ·rw [if_neg c4] at H;have aC := decide_eq_false c4;clear c4;(first | rw [aC] | (simp only [i64_w, i32_w]; rw [aC]) | skip)
   by_cases c6 : ak > 1024
   ·rw [if_pos c6] at H;have a1 : decide (1024 < ak) = true := decide_eq_true c6;clear c6;have H' := am H;clear H;have aW := g4 ad;go_wp2;go_meet
    case rel => exact ⟨_, (true), eR, H', el, ⟨pk ad.out⟩, ⟨pb HB⟩⟩
   ·rw [if_neg c6] at H;have a1 : decide (1024 < ak) = false := decide_eq_false c6;clear c6;have H' := am H;clear H;have aX := g4 ad;go_wp2;go_meet
    case rel => exact ⟨_, (decide ((aa.length : Int) > (wrap64 (ak + 1)))), eR, H', el, ⟨pk ad.out⟩, ⟨pb HB⟩⟩
 case rest =>
  clear bj;obtain ⟨kq, aF, rfl, HA, aH, ad, HB⟩ := hcut
  cases kq with
  | zero => exact absurd HA.out (by simp [r14_Right.j0])
  | succ bq =>
   have H := HA.out;clear HA;simp only [r14_Right.j0] at H
   by_cases c9 : aF = true
   ·subst c9;rw [if_pos rfl] at H;obtain rfl := Option.some.inj H;go_wp2;go_ret;exact ey (h := pb HB)
   ·replace c9 := nt c9;subst c9;rw [if_neg nf] at H;have H' := am H;clear H;go_wp2
    go_loopg [3] bq (fun kq v3 w' => ∃ (ac : Int), v3 = .int .i64 ac ∧ Aside0 (r14_Right.l0 kq ac an ao ak aa = some r) ∧ Aside0 (kq ≤ bq) ∧ Aside0 (w'.heap[ah]? = some (.cells #[.int .u64 an, .int .u64 ao, .int .i64 ak, (.slice aG aa.length ar)] 60 (0, 0))) ∧ Aside0 (Below w.heap.size w w'))
    case atStart => exact ⟨(0), eR, H', ⟨Nat.le_refl _⟩, ⟨pk ad.out⟩, ⟨pb HB⟩⟩
    case round =>
     clear H';obtain ⟨ac, rfl, HA, HK2, ad, HB⟩ := hrel
     cases gk with
     | zero => exact absurd HA.out (by simp [r14_Right.l0])
     | succ k2 =>
      have H := HA.out;clear HA;simp only [r14_Right.l0] at H
      by_cases c10 : ac < (aa.length : Int)
      ·rw [if_pos c10] at H;have bn := decide_eq_true c10;clear c10
       by_cases aY : 0 ≤ ac
       ·rw [if_pos aY] at H;have bH := decide_eq_true aY;clear aY;have a2 := am H;clear H;have bw := g4 ad;have aS : 0 ≤ (ac : Int) := od;have aT : ac < (aa.length : Int) := od;obtain ⟨ap, bu, aJ, aK, aL, aM⟩ := at_T68 a8.out ac aS aT;cases bu;replace aJ := hQ HB aJ;replace aK := hQ HB aK;replace aL := hQ HB aL;replace aM := hQ HB aM;replace aS := eq_true aS;replace aT := eq_true aT
        go_upto_region 8 with (first | ((try (refine gate_guard (by rfl) ?_; dsimp only)); refine bE 4 #[.string (⟨#[]⟩ : ByteArray), .int .u64 0, .int .u64 0, .int .u64 0] 68 ?_; intro ag hg bS ae hb; have bI := gq hg HB; replace HB := lb HB hb; obtain ⟨aw, br, bJ, bK⟩ := pm hg ad; replace ad := kb ad hb; clear hb hg; have bh := g4 ae) | ((try (refine gate_guard (by rfl) ?_; dsimp only)); refine bE 5 #[.int .u64 0, .int .u64 0] 65 ?_; intro aq hg bk af hb; have bL := gq hg HB; replace HB := lb HB hb; have au := am ((by rw [hg]; exact Nat.ne_of_lt (blk_lt (g := ah) (o := .cells #[.int .u64 an, .int .u64 ao, .int .i64 ak, .slice (some ap) aa.length ar] 60 (0, 0)) ((bf (f4 rfl) ad aw.out).out)) : ah ≠ aq)); have aZ := am ((by rw [hg]; exact Nat.ne_of_gt (blk_lt (g := ah) (o := .cells #[.int .u64 an, .int .u64 ao, .int .i64 ak, .slice (some ap) aa.length ar] 60 (0, 0)) ((bf (f4 rfl) ad aw.out).out)) : aq ≠ ah)); replace ad := am (blk_below (g := ah) (o := .cells #[.int .u64 an, .int .u64 ao, .int .i64 ak, .slice (some ap) aa.length ar] 60 (0, 0)) ((bf (f4 rfl) ad aw.out).out) hb); have av := am ((by rw [hg]; exact Nat.ne_of_lt (blk_lt (g := ag) (o := .cells #[.string ((rd_T68 aa ac).f0), .int .u64 ((rd_T68 aa ac).f1), .int .u64 ((rd_T68 aa ac).f2.f0), .int .u64 ((rd_T68 aa ac).f2.f1)] 68 (0, 0)) ((s4 rfl ae).out)) : ag ≠ aq)); have a0 := am ((by rw [hg]; exact Nat.ne_of_gt (blk_lt (g := ag) (o := .cells #[.string ((rd_T68 aa ac).f0), .int .u64 ((rd_T68 aa ac).f1), .int .u64 ((rd_T68 aa ac).f2.f0), .int .u64 ((rd_T68 aa ac).f2.f1)] 68 (0, 0)) ((s4 rfl ae).out)) : aq ≠ ag)); replace ae := am (blk_below (g := ag) (o := .cells #[.string ((rd_T68 aa ac).f0), .int .u64 ((rd_T68 aa ac).f1), .int .u64 ((rd_T68 aa ac).f2.f0), .int .u64 ((rd_T68 aa ac).f2.f1)] 68 (0, 0)) ((s4 rfl ae).out) hb); clear hb hg; have bM := aZ.out; have bN := au.out; have bO := a0.out; have bP := av.out; have bi := g2 af));(try simp only [Act.put, List.setIfInBounds_toArray, List.set_cons_zero, List.set_cons_succ])
        go_cut [55] (fun bB wc => ∃ (kq : Nat) (aD : Bool), bB = .bool aD ∧ Aside0 (r14_Right.j2 kq ac aD an ao ak aa ((rd_T68 aa ac).f0) ((rd_T68 aa ac).f1) ((rd_T68 aa ac).f2.f0) ((rd_T68 aa ac).f2.f1) = some r) ∧ Aside0 (kq ≤ k2) ∧ Aside0 (wc.heap[ah]? = some (.cells #[.int .u64 an, .int .u64 ao, .int .i64 ak, (.slice (some ap) aa.length ar)] 60 (0, 0))) ∧ Aside0 (wc.heap[ag]? = some (.cells #[.string ((rd_T68 aa ac).f0), .int .u64 ((rd_T68 aa ac).f1), .int .u64 ((rd_T68 aa ac).f2.f0), .int .u64 ((rd_T68 aa ac).f2.f1)] 68 (0, 0))) ∧ Aside0 (wc.heap[aq]? = some (.cells #[.int .u64 0, .int .u64 0] 65 (0, 0))) ∧ Aside0 (Below w.heap.size w wc))
        case first =>
         have H := a2.out;clear a2
         by_cases aI : (((rd_T68 aa ac).f0).size : Int) > 64
         ·rw [if_pos aI] at H;have ax : decide (64 < (((rd_T68 aa ac).f0).size : Int)) = true := decide_eq_true aI;have a9 : decide (64 < ((rd_T68 aa ac).f0).size) = true := decide_eq_true (by omega);clear aI;(first | rw [ax] | (simp only [i64_w, i32_w]; rw [ax]) | skip);have H' := am H;clear H
          try go_wp2
          generalize aj : (bk.setCell ⟨aq, 0, none⟩ (.int .u64 0)).setCell ⟨aq, 1, none⟩ (.int .u64 0) = w22;replace aj := aj.symm;replace ad := bf (f2 aj) ad au.out;replace ae := bf (f2 aj) ae av.out;replace HB := lf (f2 aj) HB;replace af := s2 aj af;clear aj;replace ad := am (blk_drew ad.out);replace ae := am (blk_drew ae.out);replace af := am (blk_drew af.out);replace HB := am (below_drew1 HB.out);refine start_ (n := 20) (S := fun w' => w'.cell? ⟨ag, 0, none⟩ = some (.string ((rd_T68 aa ac).f0)) ∧ ci w' ag 1 .u64 ((rd_T68 aa ac).f1) ∧ ci w' ag 2 .u64 ((rd_T68 aa ac).f2.f0) ∧ ci w' ag 3 .u64 ((rd_T68 aa ac).f2.f1)) (ds := []) #[bF, bF, bF, bF, bF, bF, bF, bF, bF, bF, bF, bF, bF, bF, bF, bF, bF, bF, bF, bF] (by kernel_rfl) rfl rfl (Q4 ae) (fun hh => ?_); refine with_tabW r14_Right.tab8 r14_Right.bits8 (fun HT_ HW_ => ?_);generalize w22.drew = bT at ad ae af HB hh ⊢;refine pu 0 ?_;refine ta 1 hh ?_;refine P2 2 3 ?_;refine pu 4 ?_;refine po 5 ?_;refine po 6 ?_;refine po 7 ?_;refine po 8 ?_;refine po 9 ?_;refine po 10 ?_;refine po 11 ?_;refine po 12 ?_;refine P2 13 14 ?_;refine po 15 ?_;refine po 16 ?_;refine po 17 ?_;refine po 18 ?_;refine pu 19 ?_;refine done_ (done_of HT_.out (by kernel_rfl)) ?_
          try go_wp2
          go_meet
          case rel => exact ⟨_, (true), eR, H', ⟨by have := aH.out; have := HK2.out; first | omega | exact Nat.le_refl _⟩, ⟨pk ad.out⟩, ⟨pk ae.out⟩, ⟨pk af.out⟩, ⟨pb HB⟩⟩
         ·rw [if_neg aI] at H;have ax : decide (64 < (((rd_T68 aa ac).f0).size : Int)) = false := decide_eq_false aI;have a9 : decide (64 < ((rd_T68 aa ac).f0).size) = false := decide_eq_false (by omega);clear aI;(first | rw [ax] | (simp only [i64_w, i32_w]; rw [ax]) | skip);obtain ⟨a3, bs, H⟩ := ob H;(try dsimp only at H)
          by_cases aE : ((rd_T68 aa ac).f1) = a3
          ·rw [if_pos aE] at H;have a_ := beq_iff_eq.mpr aE;have ba := bne_eq_false_iff_eq.mpr aE;clear aE;have H' := am H;clear H
           try go_wp2
           generalize aj : (bk.setCell ⟨aq, 0, none⟩ (.int .u64 0)).setCell ⟨aq, 1, none⟩ (.int .u64 0) = w26;replace aj := aj.symm;replace ad := bf (f2 aj) ad au.out;replace ae := bf (f2 aj) ae av.out;replace HB := lf (f2 aj) HB;replace af := s2 aj af;clear aj;replace ad := am (blk_drew ad.out);replace ae := am (blk_drew ae.out);replace af := am (blk_drew af.out);replace HB := am (below_drew1 HB.out);refine start_ (n := 20) (S := fun w' => w'.cell? ⟨ag, 0, none⟩ = some (.string ((rd_T68 aa ac).f0)) ∧ ci w' ag 1 .u64 ((rd_T68 aa ac).f1) ∧ ci w' ag 2 .u64 ((rd_T68 aa ac).f2.f0) ∧ ci w' ag 3 .u64 ((rd_T68 aa ac).f2.f1) ∧ ci w' ah 0 .u64 an ∧ ci w' ah 1 .u64 ao ∧ ci w' ah 2 .i64 ak ∧ w'.cell? ⟨ah, 3, none⟩ = some (.slice (some ap) aa.length ar) ∧ ci w' aq 0 .u64 0 ∧ ci w' aq 1 .u64 0) (ds := []) #[bF, bF, bF, bF, bF, bF, bF, bF, bF, bF, bF, bF, bF, bF, bF, bF, bF, bF, bF, bF] (by kernel_rfl) rfl rfl (K4 ae (K4 ad (Q2 af))) (fun hh => ?_); refine with_tabW r14_Right.tab8 r14_Right.bits8 (fun HT_ HW_ => ?_);generalize w26.drew = bU at ad ae af HB hh ⊢;refine pu 0 ?_;refine ta 1 hh ?_;refine P2 2 3 ?_;refine P2 4 5 ?_;refine P2 7 9 ?_;refine ta 6 hh ?_;refine ta 8 hh ?_;refine ta 10 hh ?_;refine on1 11 (fun K hK => ?_);refine gs Try.func11 #[.agg #[.int .u64 an, .int .u64 ao], .string ((rd_T68 aa ac).f0)] ?_;(with_reducible refine (r05_Sum.calls k2 an ao ((rd_T68 aa ac).f0) a3 _ bs.out).mono ?_);rintro e bV ⟨rfl, hb⟩;refine ⟨_, rfl, ?_⟩;replace ad := kb ad hb;replace ae := kb ae hb;replace af := kb af hb;replace HB := lb HB hb;clear hb;refine hK.out _ _ (K4 ae (K4 ad (Q2 af))) (fun hh => ?_);clear hK K;refine nm ?_;refine P2 12 13 ?_;refine P2 14 15 ?_;refine ta 16 hh ?_;refine ta 17 hh ?_;refine P2 18 19 ?_;refine done_ (done_of HT_.out (by kernel_rfl)) ?_
           try go_wp2
           go_meet
           case rel => exact ⟨_, ((((rd_T68 aa ac).f2.f0) == 0 && (((rd_T68 aa ac).f2.f1) == 0))), eR, H', ⟨by have := aH.out; have := HK2.out; first | omega | exact Nat.le_refl _⟩, ⟨pk ad.out⟩, ⟨pk ae.out⟩, ⟨pk af.out⟩, ⟨pb HB⟩⟩
          ·rw [if_neg aE] at H;have a_ := beq_eq_false_iff_ne.mpr aE;have ba := bne_iff_ne.mpr aE;have H' := am H;clear H
           try go_wp2
           generalize aj : (bk.setCell ⟨aq, 0, none⟩ (.int .u64 0)).setCell ⟨aq, 1, none⟩ (.int .u64 0) = w29;replace aj := aj.symm;replace ad := bf (f2 aj) ad au.out;replace ae := bf (f2 aj) ae av.out;replace HB := lf (f2 aj) HB;replace af := s2 aj af;clear aj;replace ad := am (blk_drew ad.out);replace ae := am (blk_drew ae.out);replace af := am (blk_drew af.out);replace HB := am (below_drew1 HB.out);refine start_ (n := 20) (S := fun w' => w'.cell? ⟨ag, 0, none⟩ = some (.string ((rd_T68 aa ac).f0)) ∧ ci w' ag 1 .u64 ((rd_T68 aa ac).f1) ∧ ci w' ag 2 .u64 ((rd_T68 aa ac).f2.f0) ∧ ci w' ag 3 .u64 ((rd_T68 aa ac).f2.f1) ∧ ci w' ah 0 .u64 an ∧ ci w' ah 1 .u64 ao ∧ ci w' ah 2 .i64 ak ∧ w'.cell? ⟨ah, 3, none⟩ = some (.slice (some ap) aa.length ar)) (ds := []) #[bF, bF, bF, bF, bF, bF, bF, bF, bF, bF, bF, bF, bF, bF, bF, bF, bF, bF, bF, bF] (by kernel_rfl) rfl rfl (K4 ae (Q4 ad)) (fun hh => ?_); refine with_tabW r14_Right.tab8 r14_Right.bits8 (fun HT_ HW_ => ?_);generalize w29.drew = bW at ad ae af HB hh ⊢;refine pu 0 ?_;refine ta 1 hh ?_;refine P2 2 3 ?_;refine P2 4 5 ?_;refine P2 7 9 ?_;refine ta 6 hh ?_;refine ta 8 hh ?_;refine ta 10 hh ?_;refine on1 11 (fun K hK => ?_);refine gs Try.func11 #[.agg #[.int .u64 an, .int .u64 ao], .string ((rd_T68 aa ac).f0)] ?_;(with_reducible refine (r05_Sum.calls k2 an ao ((rd_T68 aa ac).f0) a3 _ bs.out).mono ?_);rintro e bX ⟨rfl, hb⟩;refine ⟨_, rfl, ?_⟩;replace ad := kb ad hb;replace ae := kb ae hb;replace af := kb af hb;replace HB := lb HB hb;clear hb;refine hK.out _ _ (K4 ae (Q4 ad)) (fun hh => ?_);clear hK K;refine nm ?_;refine P2 12 13 ?_;refine pu 14 ?_;refine po 15 ?_;refine po 16 ?_;refine po 17 ?_;refine po 18 ?_;refine pu 19 ?_;refine done_ (done_of HT_.out (by kernel_rfl)) ?_
           try go_wp2
           go_meet
           case rel => exact ⟨_, (true), eR, H', ⟨by have := aH.out; have := HK2.out; first | omega | exact Nat.le_refl _⟩, ⟨pk ad.out⟩, ⟨pk ae.out⟩, ⟨pk af.out⟩, ⟨pb HB⟩⟩
        case rest =>
         clear a2 bh bi aS aT;obtain ⟨kq, aD, rfl, HA, aU, ad, ae, af, HB⟩ := hcut
         cases kq with
         | zero => exact absurd HA.out (by simp [r14_Right.j2])
         | succ bl =>
          have H := HA.out;clear HA;simp only [r14_Right.j2] at H
          by_cases bb : aD = true
          ·subst bb;rw [if_pos rfl] at H;obtain rfl := Option.some.inj H;go_wp2;go_ret;exact ey (h := pb HB)
          ·replace bb := nt bb;subst bb;rw [if_neg nf] at H
           by_cases aN : ac > 0
           ·rw [if_pos aN] at H;have bo : decide (0 < ac) = true := decide_eq_true aN;clear aN;obtain ⟨ai, hji34⟩ : ∃ j_ : Int, (wrap64 (ac - 1)) = j_ := ⟨_, rfl⟩;rw [hji34] at H;have hji34w : (IntKind.i64.wrap (ac - 1)) = ai := (i64_w _).trans hji34
            by_cases bc : 0 ≤ (ai)
            ·rw [if_pos bc] at H;have bQ := decide_eq_true bc;clear bc
             by_cases bd : (ai) < (aa.length : Int)
             ·rw [if_pos bd] at H;have bR := decide_eq_true bd;clear bd;obtain ⟨bm, bC, H⟩ := ob H;(try dsimp only at H);have Hh_ := am H;clear H
              try go_wp2
              replace ad := am (blk_drew ad.out);replace ae := am (blk_drew ae.out);replace af := am (blk_drew af.out);replace HB := am (below_drew1 HB.out);have a4 : 0 ≤ ((ai) : Int) := od;have a5 : (ai) < (aa.length : Int) := od;obtain ⟨bp, bv, ay, az, aA, aB⟩ := at_T68 a8.out (ai) a4 a5;have aO := aB;have aP := aA;have aQ := az;have aR := ay;obtain rfl : ap = bp := (by injection bv);replace ay := hQ HB ay;replace az := hQ HB az;replace aA := hQ HB aA;replace aB := hQ HB aB;replace a4 := eq_true a4;replace a5 := eq_true a5;refine start_ (n := 13) (S := fun w' => ci w' ah 0 .u64 an ∧ ci w' ah 1 .u64 ao ∧ ci w' ah 2 .i64 ak ∧ w'.cell? ⟨ah, 3, none⟩ = some (.slice (some ap) aa.length ar) ∧ w'.cell? ⟨ag, 0, none⟩ = some (.string ((rd_T68 aa ac).f0)) ∧ ci w' ag 1 .u64 ((rd_T68 aa ac).f1) ∧ ci w' ag 2 .u64 ((rd_T68 aa ac).f2.f0) ∧ ci w' ag 3 .u64 ((rd_T68 aa ac).f2.f1) ∧ w'.cell? (ap.add (((ai)).toNat * 4)) = some (.string ((rd_T68 aa (ai)).f0)) ∧ w'.cell? ⟨(ap.add (((ai)).toNat * 4)).block, (ap.add (((ai)).toNat * 4)).off + 1, none⟩ = some (.int .u64 ((rd_T68 aa (ai)).f1)) ∧ w'.cell? ⟨(ap.add (((ai)).toNat * 4)).block, (ap.add (((ai)).toNat * 4)).off + 2, none⟩ = some (.int .u64 ((rd_T68 aa (ai)).f2.f0)) ∧ w'.cell? ⟨(ap.add (((ai)).toNat * 4)).block, (ap.add (((ai)).toNat * 4)).off + 3, none⟩ = some (.int .u64 ((rd_T68 aa (ai)).f2.f1))) (ds := []) #[bF, bF, bF, bF, bF, bF, bF, bF, bF, bF, bF, bF, bF] (by kernel_rfl) rfl rfl (K4 ad (K4 ae ⟨(hQ HB aR), (hQ HB aQ), (hQ HB aP), (hQ HB aO)⟩)) (fun hh => ?_); refine with_tabW r14_Right.tab10 r14_Right.bits10 (fun HT_ HW_ => ?_);generalize wc.drew = bY at ad ae af HB ay az aA aB hh ⊢;refine P2 0 1 ?_;refine P2 2 3 ?_;refine P2 5 6 ?_;refine ta 4 hh ?_;refine pu 7 ?_;refine ta 8 hh ?_;refine ta 9 hh ?_;refine on1 10 (fun K hK => ?_);refine goes_ Try.func54 (by kernel_rfl) rfl #[.agg #[.string ((rd_T68 aa (ai)).f0), .int .u64 ((rd_T68 aa (ai)).f1), .int .u64 ((rd_T68 aa (ai)).f2.f0), .int .u64 ((rd_T68 aa (ai)).f2.f1)], .agg #[.string ((rd_T68 aa ac).f0), .int .u64 ((rd_T68 aa ac).f1), .int .u64 ((rd_T68 aa ac).f2.f0), .int .u64 ((rd_T68 aa ac).f2.f1)]] (by rfl) rfl rfl (by (try simp only [List.map_toArray, List.map_cons, List.map_nil]); first | done | (simp only [hji34]; rfl) | rfl | (simp only [List.length_drop, List.length_take]; rfl)) ?_;(with_reducible refine (r14_Ahead.calls ((rd_T68 aa (ai)).f0) ((rd_T68 aa (ai)).f1) ((rd_T68 aa (ai)).f2.f0) ((rd_T68 aa (ai)).f2.f1) ((rd_T68 aa ac).f0) ((rd_T68 aa ac).f1) ((rd_T68 aa ac).f2.f0) ((rd_T68 aa ac).f2.f1) bm _ bC.out).mono ?_);rintro e bZ ⟨rfl, hb⟩;refine ⟨_, rfl, ?_⟩;replace ad := kb ad hb;replace ae := kb ae hb;replace af := kb af hb;replace HB := lb HB hb;clear hb;refine hK.out _ _ (K4 ad (K4 ae ⟨(hQ HB aR), (hQ HB aQ), (hQ HB aP), (hQ HB aO)⟩)) (fun hh => ?_);clear hK K;refine nm ?_;refine P2 11 12 ?_;refine done_ (done_of HT_.out (by kernel_rfl)) ?_;have H := Hh_.out;clear Hh_
              by_cases bg : bm = true
              ·subst bg;rw [if_pos rfl] at H;have H' := am H;clear H
               try go_wp2
               go_roundg bl
               case measure => have := aH.out; have := HK2.out; have := aU.out; omega
               case rel => exact ⟨(wrap64 (ac + 1)), eR, H', ⟨by have := aH.out; have := HK2.out; have := aU.out; omega⟩, ⟨pk ad.out⟩, ⟨pb HB⟩⟩
              ·replace bg := nt bg;subst bg;rw [if_neg nf] at H;obtain rfl := Option.some.inj H
               try go_wp2
               go_ret;exact ⟨by first | rfl | (simp [errW_none, errW_some] <;> rfl) | (simp only [← hji34]; first | rfl | (simp [errW_none, errW_some] <;> rfl)) | (simp [*, errW_none, errW_some] <;> rfl), pb HB⟩
             ·exact (na bd H).elim
            ·exact (na bc H).elim
           ·rw [if_neg aN] at H;have bo : decide (0 < ac) = false := decide_eq_false aN;clear aN;have H' := am H;clear H
            try go_wp2
            replace ad := am (blk_drew ad.out);replace ae := am (blk_drew ae.out);replace af := am (blk_drew af.out);replace HB := am (below_drew1 HB.out);refine start_ (n := 13) (S := fun w' => True) (ds := []) #[bF, bF, bF, bF, bF, bF, bF, bF, bF, bF, bF, bF, bF] (by kernel_rfl) rfl rfl trivial (fun hh => ?_); refine with_tabW r14_Right.tab10 r14_Right.bits10 (fun HT_ HW_ => ?_);generalize wc.drew = b0 at ad ae af HB hh ⊢;refine P2 0 1 ?_;refine pu 2 ?_;refine po 3 ?_;refine po 4 ?_;refine po 5 ?_;refine po 6 ?_;refine po 7 ?_;refine po 8 ?_;refine po 9 ?_;refine po 10 ?_;refine po 11 ?_;refine pu 12 ?_;refine done_ (done_of HT_.out (by kernel_rfl)) ?_
            try go_wp2
            go_roundg bl
            case measure => have := aH.out; have := HK2.out; have := aU.out; omega
            case rel => exact ⟨(wrap64 (ac + 1)), eR, H', ⟨by have := aH.out; have := HK2.out; have := aU.out; omega⟩, ⟨pk ad.out⟩, ⟨pb HB⟩⟩
       ·exact (na aY H).elim
      ·rw [if_neg c10] at H;have bn := decide_eq_false c10;clear c10;obtain rfl := Option.some.inj H;have bz := g4 ad;go_wp2;go_ret;exact ey (h := pb HB)
end
set_option maxHeartbeats 400000000
set_option maxRecDepth 100000

def r21_ahead.f (a : ByteArray) (b c d e : Int) (g : List (S68)) (h : ByteArray) (i j l m : Int) (n : List (S68)) : Option (Bool) := if b = i then (some (Op.bytesLess a.toList h.toList)) else (some (decide (b < i)))
theorem r21_ahead.calls (ag : ByteArray) (ae ah ai aj : Int) (ak : Option Addr) (an : Nat) (ac : List (S68)) (ao : ByteArray) (af ap aq ar : Int) (au : Option Addr) (av : Nat) (ad : List (S68)) (r : Bool) (w : World) (az : Kd.C k68 w ak ac.length ac) (aA : ac.length ≤ an) (aB : Kd.C k68 w au ad.length ad) (aC : ad.length ≤ av) (h : r21_ahead.f ag ae ah ai aj ac ao af ap aq ar ad = some r) :
  Calls Try.prog 37 #[.agg #[.string ag, .int .u64 ae, .int .u64 ah, .int .u64 ai, .int .i64 aj, .slice ak ac.length an], .agg #[.string ao, .int .u64 af, .int .u64 ap, .int .u64 aq, .int .i64 ar, .slice au ad.length av]] w fun e w' => e = .returned (.bool r) ∧ Below w.heap.size w w' := by
 have hu77 := Try.underlying77;have aN := am az;have aO := am aA;clear az aA;have aP := am aB;have aQ := am aC;clear aB aC;have HB := am (Below.refl w.heap.size w);unfold r21_ahead.f at h;have H := h;clear h
 by_cases c3 : ae = af
 ·rw [if_pos c3] at H;have aH := beq_iff_eq.mpr c3;have aI := bne_eq_false_iff_eq.mpr c3;clear c3;obtain rfl := Option.some.inj H;go_enter Try.func37, Try.ntmps37;go_wp2_with (first | (refine bE 2 #[.string ag, .int .u64 ae, .int .u64 ah, .int .u64 ai, .int .i64 aj, .slice ak ac.length an] 77 ?_; intro aD hg w4 aa hb; have aE := gq hg HB; replace HB := lb HB hb; clear hb hg) | (refine bE 3 #[.string ao, .int .u64 af, .int .u64 ap, .int .u64 aq, .int .i64 ar, .slice au ad.length av] 77 ?_; intro aF hg w5 aw hb; have aG := gq hg HB; replace HB := lb HB hb; obtain ⟨ax, ay, aT, aU⟩ := pm hg aa; replace aa := kb aa hb; clear hb hg; have aL := g6 aa; have aM := g6 aw));go_ret;exact ey (h := pb HB)
 rw [if_neg c3] at H;have aH := beq_eq_false_iff_ne.mpr c3;have aI := bne_iff_ne.mpr c3;obtain rfl := Option.some.inj H;go_enter Try.func37, Try.ntmps37;go_wp2_with (first | (refine bE 2 #[.string ag, .int .u64 ae, .int .u64 ah, .int .u64 ai, .int .i64 aj, .slice ak ac.length an] 77 ?_; intro aD hg w9 aa hb; have aE := gq hg HB; replace HB := lb HB hb; clear hb hg) | (refine bE 3 #[.string ao, .int .u64 af, .int .u64 ap, .int .u64 aq, .int .i64 ar, .slice au ad.length av] 77 ?_; intro aF hg aV aw hb; have aG := gq hg HB; replace HB := lb HB hb; obtain ⟨ax, ay, aR, aS⟩ := pm hg aa; replace aa := kb aa hb; clear hb hg; have aJ := g6 aa; have aK := g6 aw));go_ret;exact ey (h := pb HB)
end Go.Proofs.Ytpbiobbddgipkaa.H
