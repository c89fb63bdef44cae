import Derived.Test.YtpbiobbddgipkaaHx19
namespace Go.Proofs.Ytpbiobbddgipkaa.H
open Go.RowKit Go.Proofs.YtpbiobbddgipkaaW.PrintWords Go.Proofs.YtpbiobbddgipkaaW.PrintLast Go.Proofs.YtpbiobbddgipkaaW.PrintMore Go.Proofs.YtpbiobbddgipkaaW.Sq
attribute [local go_sem] max2_int min2_int max_two min_two max_three min_three max_four min_four
set_option linter.unusedVariables false
set_option linter.unusedSimpArgs false
section
set_option maxHeartbeats 400000000
set_option maxRecDepth 100000

attribute [local go_sem high] eqA24
mutual
def r21_Right.j0 : Nat → Bool → Int → Int → Int → Int → List (S77) → Option (Bool)
 | 0, _, _, _, _, _, _ => none
 | k + 1, a, b, c, d, e, f => if a = true then (some false) else (r21_Right.l0 k 0 b c d e f)
def r21_Right.l0 : Nat → Int → Int → Int → Int → Int → List (S77) → Option (Bool)
 | 0, _, _, _, _, _, _ => none
 | k + 1, c, d, e, g, h, i => if c < (i.length : Int) then (if 0 ≤ c then (if (((rd_T77 i c).f0).size : Int) > 64 then (r21_Right.j2 k c true d e g h i ((rd_T77 i c).f0) ((rd_T77 i c).f1) ((rd_T77 i c).f2.f0.f0) ((rd_T77 i c).f2.f0.f1) ((rd_T77 i c).f2.f1) ((rd_T77 i c).f2.f2)) else ((r05_Sum.f k d e ((rd_T77 i c).f0)).bind fun a => (if ((rd_T77 i c).f1) = a then ((r14_Right.f k ((rd_T77 i c).f2.f0.f0) ((rd_T77 i c).f2.f0.f1) ((rd_T77 i c).f2.f1) ((rd_T77 i c).f2.f2)).bind fun b => (if b = true then (if (!(((rd_T77 i c).f2.f0.f0) == d) || (!(((rd_T77 i c).f2.f0.f1) == e))) = true then (r21_Right.j2 k c true d e g h i ((rd_T77 i c).f0) ((rd_T77 i c).f1) ((rd_T77 i c).f2.f0.f0) ((rd_T77 i c).f2.f0.f1) ((rd_T77 i c).f2.f1) ((rd_T77 i c).f2.f2)) else (if ((rd_T77 i c).f2.f1) = h then (r21_Right.j2 k c ((((rd_T77 i c).f2.f2).length : Int) == 0) d e g h i ((rd_T77 i c).f0) ((rd_T77 i c).f1) ((rd_T77 i c).f2.f0.f0) ((rd_T77 i c).f2.f0.f1) ((rd_T77 i c).f2.f1) ((rd_T77 i c).f2.f2)) else (r21_Right.j2 k c true d e g h i ((rd_T77 i c).f0) ((rd_T77 i c).f1) ((rd_T77 i c).f2.f0.f0) ((rd_T77 i c).f2.f0.f1) ((rd_T77 i c).f2.f1) ((rd_T77 i c).f2.f2)))) else (r21_Right.j2 k c true d e g h i ((rd_T77 i c).f0) ((rd_T77 i c).f1) ((rd_T77 i c).f2.f0.f0) ((rd_T77 i c).f2.f0.f1) ((rd_T77 i c).f2.f1) ((rd_T77 i c).f2.f2)))) else (r21_Right.j2 k c true d e g h i ((rd_T77 i c).f0) ((rd_T77 i c).f1) ((rd_T77 i c).f2.f0.f0) ((rd_T77 i c).f2.f0.f1) ((rd_T77 i c).f2.f1) ((rd_T77 i c).f2.f2))))) else (none)) else (some true)
def r21_Right.j2 : Nat → Int → Bool → Int → Int → Int → Int → List (S77) → ByteArray → Int → Int → Int → Int → List (S68) → Option (Bool)
 | 0, _, _, _, _, _, _, _, _, _, _, _, _, _ => none
 | k + 1, b, c, d, e, g, h, i, j, l, m, n, o, p => if c = true then (some false) else (if b > 0 then (if 0 ≤ (wrap64 (b - 1)) then (if (wrap64 (b - 1)) < (i.length : Int) then ((r21_ahead.f ((rd_T77 i (wrap64 (b - 1))).f0) ((rd_T77 i (wrap64 (b - 1))).f1) ((rd_T77 i (wrap64 (b - 1))).f2.f0.f0) ((rd_T77 i (wrap64 (b - 1))).f2.f0.f1) ((rd_T77 i (wrap64 (b - 1))).f2.f1) ((rd_T77 i (wrap64 (b - 1))).f2.f2) j l m n o p).bind fun a => (if a = true then (r21_Right.l0 k (wrap64 (b + 1)) d e g h i) else (some false))) else (none)) else (none)) else (r21_Right.l0 k (wrap64 (b + 1)) d e g h i))
end
def r21_Right.f (k : Nat) (a b c d : Int) (e : List (S77)) : Option (Bool) := if c < 1 then (r21_Right.j0 k true a b c d e) else (if c > 64 then (r21_Right.j0 k true a b c d e) else (if d < 1 then (r21_Right.j0 k true a b c d e) else (if d > 1024 then (r21_Right.j0 k true a b c d e) else (r21_Right.j0 k (decide ((e.length : Int) > c)) a b c d e))))
theorem r21_Right.mono_l : ∀ k, (∀ y0 y1 y2 y3 y4 y5, LeO (r21_Right.j0 k y0 y1 y2 y3 y4 y5) (r21_Right.j0 (k + 1) y0 y1 y2 y3 y4 y5)) ∧ (∀ y0 y1 y2 y3 y4 y5, LeO (r21_Right.l0 k y0 y1 y2 y3 y4 y5) (r21_Right.l0 (k + 1) y0 y1 y2 y3 y4 y5)) ∧ (∀ y0 y1 y2 y3 y4 y5 y6 y7 y8 y9 y10 y11 y12, LeO (r21_Right.j2 k y0 y1 y2 y3 y4 y5 y6 y7 y8 y9 y10 y11 y12) (r21_Right.j2 (k + 1) y0 y1 y2 y3 y4 y5 y6 y7 y8 y9 y10 y11 y12))
 | 0 => ⟨fun _ _ _ _ _ _ r h => by simp [r21_Right.j0] at h, fun _ _ _ _ _ _ r h => by simp [r21_Right.l0] at h, fun _ _ _ _ _ _ _ _ _ _ _ _ _ r h => by simp [r21_Right.j2] at h⟩
 | k + 1 => by
  obtain ⟨ih0, ih1, ih2⟩ := r21_Right.mono_l k;refine ⟨?_, ?_, ?_⟩
  ·intro y0 y1 y2 y3 y4 y5
   unfold r21_Right.j0
   with_reducible repeat' first | apply ih0 | apply ih1 | apply ih2 | apply r05_Sum.mono | apply r14_Right.mono | exact LeO.refl _ | exact LeO.none _ | refine LeO.ite ?_ ?_ | refine LeO.bind ?_ (fun _ => ?_)
  ·intro y0 y1 y2 y3 y4 y5
   unfold r21_Right.l0
   with_reducible repeat' first | apply ih0 | apply ih1 | apply ih2 | apply r05_Sum.mono | apply r14_Right.mono | exact LeO.refl _ | exact LeO.none _ | refine LeO.ite ?_ ?_ | refine LeO.bind ?_ (fun _ => ?_)
  ·intro y0 y1 y2 y3 y4 y5 y6 y7 y8 y9 y10 y11 y12
   unfold r21_Right.j2
   with_reducible repeat' first | apply ih0 | apply ih1 | apply ih2 | apply r05_Sum.mono | apply r14_Right.mono | exact LeO.refl _ | exact LeO.none _ | refine LeO.ite ?_ ?_ | refine LeO.bind ?_ (fun _ => ?_)
theorem r21_Right.mono : ∀ a0 a1 a2 a3 a4 k, LeO (r21_Right.f k a0 a1 a2 a3 a4) (r21_Right.f (k + 1) a0 a1 a2 a3 a4) := by
 intro a0 a1 a2 a3 a4 k;obtain ⟨ih0, ih1, ih2⟩ := r21_Right.mono_l k
 unfold r21_Right.f
 with_reducible repeat' first | apply ih0 | apply ih1 | apply ih2 | apply r05_Sum.mono | apply r14_Right.mono | exact LeO.refl _ | exact LeO.none _ | refine LeO.ite ?_ ?_ | refine LeO.bind ?_ (fun _ => ?_)
def r21_Right.T7 : DT := (true, [dz, dd [0], dd [1], dd [2], dd [3], dd [4], ([5, 4], [4, 5]), dd [4], ([7, 4], [4, 7]), dd [4], ([9, 4], [4, 9]), ([8, 10, 4, 4], [4, 8, 10]), ([6, 11, 4], [4, 6, 11]), dd [4, 12], ([13, 11], [13]), dd [14], ([15, 14], [14, 15]), ([16, 14, 14], [14, 16]), ([17, 14], [14, 17]), dd [14, 18], ([19, 17], [19]), dd [20], ([21, 20], [20, 21]), ([22, 20], [20, 22]), dd [20], ([24, 20], [20, 24]), ([23, 25, 20], [20, 23, 25]), dd [20, 26], ([27, 20], [27]), dd [28], ([29, 28], [28, 29]), ([30, 28], [28, 30]), dd [28], ([32, 28], [28, 32]), ([31, 33, 28], [28, 31, 33]), dd [28, 34], ([35, 28], [35]), dd [36], ([37, 36], [36, 37]), ([38, 36], [36, 38]), ([39, 36], [36, 39]), ([40, 36], [36, 40]), dd [36, 41]])
def r21_Right.B7 : List Nat := [0, 1, 3, 7, 15, 31, 63, 31, 159, 31, 543, 1951, 4095, 8191, 16383, 32767, 65535, 131071, 262143, 524287, 1048575, 2097151, 4194303, 8388607, 2097151, 18874367, 67108863, 134217727, 268435455, 536870911, 1073741823, 2147483647, 536870911, 4831838207, 17179869183, 34359738367, 68719476735, 137438953471, 274877906943, 549755813887, 1099511627775, 2199023255551, 4398046511103]
theorem r21_Right.tab7 : rtab .any (opsOf Try.f19 7) = r21_Right.T7 := by kernel_rfl
theorem r21_Right.bits7 : waitsOk r21_Right.T7.2 r21_Right.B7 = true := by kernel_rfl
def r21_Right.T9 : DT := (true, [dz, dd [0], dd [1], dd [2], ([3, 2], [2, 3]), dd [2], ([5, 2], [2, 5]), ([4, 6, 2], [2, 4, 6]), ([7, 2], [2, 7]), dd [2], ([8, 9, 2, 2], [2, 8, 9]), ([10, 2], [2, 10]), dd [2, 11]])
def r21_Right.B9 : List Nat := [0, 1, 3, 7, 15, 7, 39, 127, 255, 7, 1023, 2047, 4095]
theorem r21_Right.tab9 : rtab .any (opsOf Try.f19 9) = r21_Right.T9 := by kernel_rfl
theorem r21_Right.bits9 : waitsOk r21_Right.T9.2 r21_Right.B9 = true := by kernel_rfl
theorem r21_Right.calls (k : Nat) (an ao aq ar : Int) (aL : Option Addr) (av : Nat) (aa : List (S77)) (r : Bool) (w : World) (bs : Kd.C k77 w aL aa.length aa) (bu : aa.length ≤ av) (h : r21_Right.f k an ao aq ar aa = some r) :
  Calls Try.prog 19 #[.agg #[.int .u64 an, .int .u64 ao, .int .i64 aq, .int .i64 ar, .slice aL aa.length av]] w fun e w' => e = .returned (.bool r) ∧ Below w.heap.size w w' := by
 have hu54 := Try.underlying54;have hu77 := Try.underlying77;have hu24 := Try.underlying24;have hu60 := Try.underlying60;have bv := am bs;have b5 := am bu;clear bs bu;have HB := am (Below.refl w.heap.size w);unfold r21_Right.f at h;have H := h;clear h;have bK := am H;clear H
 go_enter Try.func19, Try.ntmps19;go_upto_region 1 with (first | ((try (refine gate_guard (by rfl) ?_; dsimp only)); refine bE 1 #[.int .u64 an, .int .u64 ao, .int .i64 aq, .int .i64 ar, .slice aL aa.length av] 54 ?_; intro ag hg w3 ad hb; have b6 := gq hg HB; replace HB := lb HB hb; clear hb hg));(try simp only [Act.put, List.setIfInBounds_toArray, List.set_cons_zero, List.set_cons_succ])
 go_cut [30] (fun b2 wc => ∃ (kq : Nat) (aK : Bool), b2 = .bool aK ∧ Aside0 (r21_Right.j0 kq aK an ao aq ar aa = some r) ∧ Aside0 (kq ≤ k) ∧ Aside0 (wc.heap[ag]? = some (.cells #[.int .u64 an, .int .u64 ao, .int .i64 aq, .int .i64 ar, (.slice aL aa.length av)] 54 (0, 0))) ∧ Aside0 (Below w.heap.size w wc))
 case first =>
  have H := bK.out;clear bK
  by_cases c4 : aq < 1
  ·rw [if_pos c4] at H;have aF := decide_eq_true c4;clear c4;(first | rw [aF] | (simp only [i64_w, i32_w]; rw [aF]) | skip);have H' := am H;clear H;have bc := g5 ad;go_wp2;go_meet
   case rel => exact ⟨_, (true), eR, H', el, ⟨pk ad.out⟩, ⟨pb HB⟩⟩
  ·rw [if_neg c4] at H;have aF := decide_eq_false c4;clear c4;(first | rw [aF] | (simp only [i64_w, i32_w]; rw [aF]) | skip)
   by_cases c6 : aq > 64
   ·rw [if_pos c6] at H;have bl : decide (64 < aq) = true := decide_eq_true c6;clear c6;have H' := am H;clear H;have bd := g5 ad;go_wp2;go_meet
    case rel => exact ⟨_, (true), eR, H', el, ⟨pk ad.out⟩, ⟨pb HB⟩⟩
   ·rw [if_neg c6] at H;have bl : decide (64 < aq) = false := decide_eq_false c6;clear c6
    by_cases c8 : ar < 1
    ·rw [if_pos c8] at H;have bm := decide_eq_true c8;clear c8;have H' := am H;clear H;have bg := g5 ad;go_wp2;go_meet
     case rel => exact ⟨_, (true), eR, H', el, ⟨pk ad.out⟩, ⟨pb HB⟩⟩
    ·rw [if_neg c8] at H;have bm := decide_eq_false c8;clear c8
     by_cases c10 : ar > 1024
     ·rw [if_pos c10] at H;have ba : decide (1024 < ar) = true := decide_eq_true c10;clear c10;have H' := am H;clear H;have aN := g5 ad;go_wp2;go_meet
      case rel => exact ⟨_, (true), eR, H', el, ⟨pk ad.out⟩, ⟨pb HB⟩⟩
     ·rw [if_neg c10] at H;have ba : decide (1024 < ar) = false := decide_eq_false c10;clear c10;have H' := am H;clear H;have aO := g5 ad;go_wp2;go_meet
      case rel => exact ⟨_, (decide ((aa.length : Int) > aq)), eR, H', el, ⟨pk ad.out⟩, ⟨pb HB⟩⟩
 case rest =>
  clear bK;obtain ⟨kq, aK, rfl, HA, aE, ad, HB⟩ := hcut
  cases kq with
  | zero => exact absurd HA.out (by simp [r21_Right.j0])
  | succ bU =>
   have H := HA.out;clear HA;simp only [r21_Right.j0] at H
   by_cases bh : aK = true
   ·subst bh;rw [if_pos rfl] at H;obtain rfl := Option.some.inj H;go_wp2;go_ret;exact ey (h := pb HB)
   ·replace bh := nt bh;subst bh;rw [if_neg nf] at H;have H' := am H;clear H;go_wp2
    go_loopg [3] bU (fun kq v3 w' => ∃ (ac : Int), v3 = .int .i64 ac ∧ Aside0 (r21_Right.l0 kq ac an ao aq ar aa = some r) ∧ Aside0 (kq ≤ bU) ∧ Aside0 (w'.heap[ag]? = some (.cells #[.int .u64 an, .int .u64 ao, .int .i64 aq, .int .i64 ar, (.slice aL aa.length av)] 54 (0, 0))) ∧ Aside0 (Below w.heap.size w w'))
    case atStart => exact ⟨(0), eR, H', ⟨Nat.le_refl _⟩, ⟨pk ad.out⟩, ⟨pb HB⟩⟩
    case round =>
     clear H';obtain ⟨ac, rfl, HA, HK2, ad, HB⟩ := hrel
     cases gk with
     | zero => exact absurd HA.out (by simp [r21_Right.l0])
     | succ k2 =>
      have H := HA.out;clear HA;simp only [r21_Right.l0] at H
      by_cases aP : ac < (aa.length : Int)
      ·rw [if_pos aP] at H;have bN := decide_eq_true aP;clear aP
       by_cases bw : 0 ≤ ac
       ·rw [if_pos bw] at H;have b7 := decide_eq_true bw;clear bw;have bn := am H;clear H;have bZ := g5 ad;have bo : 0 ≤ (ac : Int) := od;have bp : ac < (aa.length : Int) := od;obtain ⟨ap, aj, ak, bW, aQ, aR, aS, aT, aU, aV, aW, aX⟩ := at_T77 bv.out ac bo bp;cases bW;replace aQ := hQ HB aQ;replace aR := hQ HB aR;replace aS := hQ HB aS;replace aT := hQ HB aT;replace aU := hQ HB aU;replace aV := hQ HB aV;have aw := am aX;have ax := am aW;clear aX aW;replace bo := eq_true bo;replace bp := eq_true bp
        go_upto_region 7 with (first | ((try (refine gate_guard (by rfl) ?_; dsimp only)); refine bE 4 #[.string (⟨#[]⟩ : ByteArray), .int .u64 0, .int .u64 0, .int .u64 0, .int .i64 0, .slice none 0 0] 77 ?_; intro af hg aY ae hb; have b8 := gq hg HB; replace HB := lb HB hb; obtain ⟨au, bV, b9, b_⟩ := pm hg ad; replace ad := kb ad hb; clear hb hg; have b0 := g6 ae));(try simp only [Act.put, List.setIfInBounds_toArray, List.set_cons_zero, List.set_cons_succ])
        go_cut [85] (fun b3 wc => ∃ (kq : Nat) (aG : Bool), b3 = .bool aG ∧ Aside0 (r21_Right.j2 kq ac aG an ao aq ar aa ((rd_T77 aa ac).f0) ((rd_T77 aa ac).f1) ((rd_T77 aa ac).f2.f0.f0) ((rd_T77 aa ac).f2.f0.f1) ((rd_T77 aa ac).f2.f1) ((rd_T77 aa ac).f2.f2) = some r) ∧ Aside0 (kq ≤ k2) ∧ Aside0 (wc.heap[ag]? = some (.cells #[.int .u64 an, .int .u64 ao, .int .i64 aq, .int .i64 ar, (.slice (some ap) aa.length av)] 54 (0, 0))) ∧ Aside0 (wc.heap[af]? = some (.cells #[.string ((rd_T77 aa ac).f0), .int .u64 ((rd_T77 aa ac).f1), .int .u64 ((rd_T77 aa ac).f2.f0.f0), .int .u64 ((rd_T77 aa ac).f2.f0.f1), .int .i64 ((rd_T77 aa ac).f2.f1), (.slice aj ((rd_T77 aa ac).f2.f2).length ak)] 77 (0, 0))) ∧ Aside0 (Below w.heap.size w wc))
        case first =>
         have H := bn.out;clear bn
         by_cases aZ : (((rd_T77 aa ac).f0).size : Int) > 64
         ·rw [if_pos aZ] at H;have aH : decide (64 < (((rd_T77 aa ac).f0).size : Int)) = true := decide_eq_true aZ;have bO : decide (64 < ((rd_T77 aa ac).f0).size) = true := decide_eq_true (by omega);clear aZ;(first | rw [aH] | (simp only [i64_w, i32_w]; rw [aH]) | skip);have H' := am H;clear H
          try go_wp2
          generalize ah : (((((aY.setCell ⟨af, 0, none⟩ (.string ((rd_T77 aa ac).f0))).setCell ⟨af, 1, none⟩ (.int .u64 ((rd_T77 aa ac).f1))).setCell ⟨af, 2, none⟩ (.int .u64 ((rd_T77 aa ac).f2.f0.f0))).setCell ⟨af, 3, none⟩ (.int .u64 ((rd_T77 aa ac).f2.f0.f1))).setCell ⟨af, 4, none⟩ (.int .i64 ((rd_T77 aa ac).f2.f1))).setCell ⟨af, 5, none⟩ (.slice aj ((rd_T77 aa ac).f2.f2).length ak) = w22;replace ah := ah.symm;replace ad := bf (f6 ah) ad au.out;replace HB := lf (f6 ah) HB;replace ae := s6 ah ae;clear ah;replace ad := am (blk_drew ad.out);replace ae := am (blk_drew ae.out);replace HB := am (below_drew1 HB.out);refine start_ (n := 43) (S := fun w' => w'.cell? ⟨af, 0, none⟩ = some (.string ((rd_T77 aa ac).f0)) ∧ ci w' af 1 .u64 ((rd_T77 aa ac).f1) ∧ ci w' af 2 .u64 ((rd_T77 aa ac).f2.f0.f0) ∧ ci w' af 3 .u64 ((rd_T77 aa ac).f2.f0.f1) ∧ ci w' af 4 .i64 ((rd_T77 aa ac).f2.f1) ∧ w'.cell? ⟨af, 5, none⟩ = some (.slice aj ((rd_T77 aa ac).f2.f2).length ak)) (ds := []) #[bF, bF, bF, bF, bF, bF, bF, bF, bF, bF, bF, bF, bF, bF, bF, bF, bF, bF, bF, bF, bF, bF, bF, bF, bF, bF, bF, bF, bF, bF, bF, bF, bF, bF, bF, bF, bF, bF, bF, bF, bF, bF, bF] (by kernel_rfl) rfl rfl (Q6 ae) (fun hh => ?_); refine with_tabW r21_Right.tab7 r21_Right.bits7 (fun HT_ HW_ => ?_);generalize w22.drew = cc at ad ae HB hh ⊢;refine pu 0 ?_;refine ta 1 hh ?_;refine P2 2 3 ?_;refine pu 4 ?_;refine po 5 ?_;refine po 6 ?_;refine po 7 ?_;refine po 8 ?_;refine po 9 ?_;refine po 10 ?_;refine po 11 ?_;refine po 12 ?_;refine P2 13 14 ?_;refine po 15 ?_;refine po 16 ?_;refine po 17 ?_;refine po 18 ?_;refine P2 19 20 ?_;refine po 21 ?_;refine po 22 ?_;refine po 23 ?_;refine po 24 ?_;refine po 25 ?_;refine po 26 ?_;refine P2 27 28 ?_;refine po 29 ?_;refine po 30 ?_;refine po 31 ?_;refine po 32 ?_;refine po 33 ?_;refine po 34 ?_;refine P2 35 36 ?_;refine po 37 ?_;refine po 38 ?_;refine po 39 ?_;refine po 40 ?_;refine po 41 ?_;refine pu 42 ?_;refine done_ (done_of HT_.out (by kernel_rfl)) ?_
          try go_wp2
          go_meet
          case rel => exact ⟨_, (true), eR, H', ⟨by have := aE.out; have := HK2.out; first | omega | exact Nat.le_refl _⟩, ⟨pk ad.out⟩, ⟨pk ae.out⟩, ⟨pb HB⟩⟩
         ·rw [if_neg aZ] at H;have aH : decide (64 < (((rd_T77 aa ac).f0).size : Int)) = false := decide_eq_false aZ;have bO : decide (64 < ((rd_T77 aa ac).f0).size) = false := decide_eq_false (by omega);clear aZ;(first | rw [aH] | (simp only [i64_w, i32_w]; rw [aH]) | skip);obtain ⟨aI, bi, H⟩ := ob H;(try dsimp only at H)
          by_cases aJ : ((rd_T77 aa ac).f1) = aI
          ·rw [if_pos aJ] at H;have bz := beq_iff_eq.mpr aJ;have bA := bne_eq_false_iff_eq.mpr aJ;clear aJ;obtain ⟨bX, bB, H⟩ := ob H;(try dsimp only at H)
           by_cases bC : bX = true
           ·subst bC;rw [if_pos rfl] at H
            by_cases a0 : (!(((rd_T77 aa ac).f2.f0.f0) == an) || (!(((rd_T77 aa ac).f2.f0.f1) == ao))) = true
            ·rw [if_pos a0] at H;have bP : (!(((rd_T77 aa ac).f2.f0.f0) == an) || (!(((rd_T77 aa ac).f2.f0.f1) == ao))) = true := a0;clear a0;have H' := am H;clear H
             try go_wp2
             generalize ah : (((((aY.setCell ⟨af, 0, none⟩ (.string ((rd_T77 aa ac).f0))).setCell ⟨af, 1, none⟩ (.int .u64 ((rd_T77 aa ac).f1))).setCell ⟨af, 2, none⟩ (.int .u64 ((rd_T77 aa ac).f2.f0.f0))).setCell ⟨af, 3, none⟩ (.int .u64 ((rd_T77 aa ac).f2.f0.f1))).setCell ⟨af, 4, none⟩ (.int .i64 ((rd_T77 aa ac).f2.f1))).setCell ⟨af, 5, none⟩ (.slice aj ((rd_T77 aa ac).f2.f2).length ak) = w29;replace ah := ah.symm;replace ad := bf (f6 ah) ad au.out;replace HB := lf (f6 ah) HB;replace ae := s6 ah ae;clear ah;replace ad := am (blk_drew ad.out);replace ae := am (blk_drew ae.out);replace HB := am (below_drew1 HB.out);refine start_ (n := 43) (S := fun w' => w'.cell? ⟨af, 0, none⟩ = some (.string ((rd_T77 aa ac).f0)) ∧ ci w' af 1 .u64 ((rd_T77 aa ac).f1) ∧ ci w' af 2 .u64 ((rd_T77 aa ac).f2.f0.f0) ∧ ci w' af 3 .u64 ((rd_T77 aa ac).f2.f0.f1) ∧ ci w' af 4 .i64 ((rd_T77 aa ac).f2.f1) ∧ w'.cell? ⟨af, 5, none⟩ = some (.slice aj ((rd_T77 aa ac).f2.f2).length ak) ∧ ci w' ag 0 .u64 an ∧ ci w' ag 1 .u64 ao ∧ ci w' ag 2 .i64 aq ∧ ci w' ag 3 .i64 ar ∧ w'.cell? ⟨ag, 4, none⟩ = some (.slice (some ap) aa.length av)) (ds := []) #[bF, bF, bF, bF, bF, bF, bF, bF, bF, bF, bF, bF, bF, bF, bF, bF, bF, bF, bF, bF, bF, bF, bF, bF, bF, bF, bF, bF, bF, bF, bF, bF, bF, bF, bF, bF, bF, bF, bF, bF, bF, bF, bF] (by kernel_rfl) rfl rfl (K6 ae (Q5 ad)) (fun hh => ?_); refine with_tabW r21_Right.tab7 r21_Right.bits7 (fun HT_ HW_ => ?_);generalize w29.drew = cd at ad ae HB hh ⊢;refine pu 0 ?_;refine ta 1 hh ?_;refine P2 2 3 ?_;refine P2 4 5 ?_;refine P2 7 9 ?_;refine ta 6 hh ?_;refine ta 8 hh ?_;refine ta 10 hh ?_;refine on1 11 (fun K hK => ?_);refine gs Try.func11 #[.agg #[.int .u64 an, .int .u64 ao], .string ((rd_T77 aa ac).f0)] ?_;(with_reducible refine (r05_Sum.calls k2 an ao ((rd_T77 aa ac).f0) aI _ bi.out).mono ?_);rintro e cf ⟨rfl, hb⟩;refine ⟨_, rfl, ?_⟩;replace ad := kb ad hb;replace ae := kb ae hb;replace HB := lb HB hb;clear hb;refine hK.out _ _ (K6 ae (Q5 ad)) (fun hh => ?_);clear hK K;refine nm ?_;refine P2 12 13 ?_;refine P2 14 15 ?_;refine ta 16 hh ?_;refine on1 17 (fun K hK => ?_);refine gs Try.func36 #[.agg #[.int .u64 ((rd_T77 aa ac).f2.f0.f0), .int .u64 ((rd_T77 aa ac).f2.f0.f1), .int .i64 ((rd_T77 aa ac).f2.f1), .slice aj ((rd_T77 aa ac).f2.f2).length ak]] ?_;(with_reducible refine (r14_Right.calls k2 ((rd_T77 aa ac).f2.f0.f0) ((rd_T77 aa ac).f2.f0.f1) ((rd_T77 aa ac).f2.f1) _ _ ((rd_T77 aa ac).f2.f2) true _ ?side1 ?side2 bB.out).mono ?_);(case side1 => exact pc (Kd.C_below aw.out HB.out));(case side2 => exact ax.out);rintro e cg ⟨rfl, hb⟩;refine ⟨_, rfl, ?_⟩;replace ad := kb ad hb;replace ae := kb ae hb;replace HB := lb HB hb;clear hb;refine hK.out _ _ (K6 ae (Q5 ad)) (fun hh => ?_);clear hK K;refine nm ?_;refine P2 18 19 ?_;refine P2 20 21 ?_;refine P2 22 24 ?_;refine ta 23 hh ?_;refine ta 25 hh ?_;refine P2 26 27 ?_;refine pu 28 ?_;refine po 29 ?_;refine po 30 ?_;refine po 31 ?_;refine po 32 ?_;refine po 33 ?_;refine po 34 ?_;refine P2 35 36 ?_;refine po 37 ?_;refine po 38 ?_;refine po 39 ?_;refine po 40 ?_;refine po 41 ?_;refine pu 42 ?_;refine done_ (done_of HT_.out (by kernel_rfl)) ?_
             try go_wp2
             go_meet
             case rel => exact ⟨_, (true), eR, H', ⟨by have := aE.out; have := HK2.out; first | omega | exact Nat.le_refl _⟩, ⟨pk ad.out⟩, ⟨pk ae.out⟩, ⟨pb HB⟩⟩
            ·rw [if_neg a0] at H
             have bP : (!(((rd_T77 aa ac).f2.f0.f0) == an) || (!(((rd_T77 aa ac).f2.f0.f1) == ao))) = false := by simpa using a0
             clear a0
             by_cases aM : ((rd_T77 aa ac).f2.f1) = ar
             ·rw [if_pos aM] at H;have bQ := beq_iff_eq.mpr aM;have bR := bne_eq_false_iff_eq.mpr aM;clear aM;have H' := am H;clear H
              try go_wp2
              generalize ah : (((((aY.setCell ⟨af, 0, none⟩ (.string ((rd_T77 aa ac).f0))).setCell ⟨af, 1, none⟩ (.int .u64 ((rd_T77 aa ac).f1))).setCell ⟨af, 2, none⟩ (.int .u64 ((rd_T77 aa ac).f2.f0.f0))).setCell ⟨af, 3, none⟩ (.int .u64 ((rd_T77 aa ac).f2.f0.f1))).setCell ⟨af, 4, none⟩ (.int .i64 ((rd_T77 aa ac).f2.f1))).setCell ⟨af, 5, none⟩ (.slice aj ((rd_T77 aa ac).f2.f2).length ak) = w34;replace ah := ah.symm;replace ad := bf (f6 ah) ad au.out;replace HB := lf (f6 ah) HB;replace ae := s6 ah ae;clear ah;replace ad := am (blk_drew ad.out);replace ae := am (blk_drew ae.out);replace HB := am (below_drew1 HB.out);refine start_ (n := 43) (S := fun w' => w'.cell? ⟨af, 0, none⟩ = some (.string ((rd_T77 aa ac).f0)) ∧ ci w' af 1 .u64 ((rd_T77 aa ac).f1) ∧ ci w' af 2 .u64 ((rd_T77 aa ac).f2.f0.f0) ∧ ci w' af 3 .u64 ((rd_T77 aa ac).f2.f0.f1) ∧ ci w' af 4 .i64 ((rd_T77 aa ac).f2.f1) ∧ w'.cell? ⟨af, 5, none⟩ = some (.slice aj ((rd_T77 aa ac).f2.f2).length ak) ∧ ci w' ag 0 .u64 an ∧ ci w' ag 1 .u64 ao ∧ ci w' ag 2 .i64 aq ∧ ci w' ag 3 .i64 ar ∧ w'.cell? ⟨ag, 4, none⟩ = some (.slice (some ap) aa.length av)) (ds := []) #[bF, bF, bF, bF, bF, bF, bF, bF, bF, bF, bF, bF, bF, bF, bF, bF, bF, bF, bF, bF, bF, bF, bF, bF, bF, bF, bF, bF, bF, bF, bF, bF, bF, bF, bF, bF, bF, bF, bF, bF, bF, bF, bF] (by kernel_rfl) rfl rfl (K6 ae (Q5 ad)) (fun hh => ?_); refine with_tabW r21_Right.tab7 r21_Right.bits7 (fun HT_ HW_ => ?_);generalize w34.drew = ch at ad ae HB hh ⊢;refine pu 0 ?_;refine ta 1 hh ?_;refine P2 2 3 ?_;refine P2 4 5 ?_;refine P2 7 9 ?_;refine ta 6 hh ?_;refine ta 8 hh ?_;refine ta 10 hh ?_;refine on1 11 (fun K hK => ?_);refine gs Try.func11 #[.agg #[.int .u64 an, .int .u64 ao], .string ((rd_T77 aa ac).f0)] ?_;(with_reducible refine (r05_Sum.calls k2 an ao ((rd_T77 aa ac).f0) aI _ bi.out).mono ?_);rintro e cj ⟨rfl, hb⟩;refine ⟨_, rfl, ?_⟩;replace ad := kb ad hb;replace ae := kb ae hb;replace HB := lb HB hb;clear hb;refine hK.out _ _ (K6 ae (Q5 ad)) (fun hh => ?_);clear hK K;refine nm ?_;refine P2 12 13 ?_;refine P2 14 15 ?_;refine ta 16 hh ?_;refine on1 17 (fun K hK => ?_);refine gs Try.func36 #[.agg #[.int .u64 ((rd_T77 aa ac).f2.f0.f0), .int .u64 ((rd_T77 aa ac).f2.f0.f1), .int .i64 ((rd_T77 aa ac).f2.f1), .slice aj ((rd_T77 aa ac).f2.f2).length ak]] ?_;(with_reducible refine (r14_Right.calls k2 ((rd_T77 aa ac).f2.f0.f0) ((rd_T77 aa ac).f2.f0.f1) ((rd_T77 aa ac).f2.f1) _ _ ((rd_T77 aa ac).f2.f2) true _ ?side1 ?side2 bB.out).mono ?_);(case side1 => exact pc (Kd.C_below aw.out HB.out));(case side2 => exact ax.out);rintro e ck ⟨rfl, hb⟩;refine ⟨_, rfl, ?_⟩;replace ad := kb ad hb;replace ae := kb ae hb;replace HB := lb HB hb;clear hb;refine hK.out _ _ (K6 ae (Q5 ad)) (fun hh => ?_);clear hK K;refine nm ?_;refine P2 18 19 ?_;refine P2 20 21 ?_;refine P2 22 24 ?_;refine ta 23 hh ?_;refine ta 25 hh ?_;refine P2 26 27 ?_;refine P2 28 29 ?_;refine P2 30 32 ?_;refine ta 31 hh ?_;refine ta 33 hh ?_;refine P2 34 35 ?_;refine P2 36 37 ?_;refine pu 38 ?_;refine ta 39 hh ?_;refine P2 40 41 ?_;refine pu 42 ?_;refine done_ (done_of HT_.out (by kernel_rfl)) ?_
              try go_wp2
              go_meet
              case rel => exact ⟨_, (((((rd_T77 aa ac).f2.f2).length : Int) == 0)), eR, H', ⟨by have := aE.out; have := HK2.out; first | omega | exact Nat.le_refl _⟩, ⟨pk ad.out⟩, ⟨pk ae.out⟩, ⟨pb HB⟩⟩
             ·rw [if_neg aM] at H;have bQ := beq_eq_false_iff_ne.mpr aM;have bR := bne_iff_ne.mpr aM;have H' := am H;clear H
              try go_wp2
              generalize ah : (((((aY.setCell ⟨af, 0, none⟩ (.string ((rd_T77 aa ac).f0))).setCell ⟨af, 1, none⟩ (.int .u64 ((rd_T77 aa ac).f1))).setCell ⟨af, 2, none⟩ (.int .u64 ((rd_T77 aa ac).f2.f0.f0))).setCell ⟨af, 3, none⟩ (.int .u64 ((rd_T77 aa ac).f2.f0.f1))).setCell ⟨af, 4, none⟩ (.int .i64 ((rd_T77 aa ac).f2.f1))).setCell ⟨af, 5, none⟩ (.slice aj ((rd_T77 aa ac).f2.f2).length ak) = w38;replace ah := ah.symm;replace ad := bf (f6 ah) ad au.out;replace HB := lf (f6 ah) HB;replace ae := s6 ah ae;clear ah;replace ad := am (blk_drew ad.out);replace ae := am (blk_drew ae.out);replace HB := am (below_drew1 HB.out);refine start_ (n := 43) (S := fun w' => w'.cell? ⟨af, 0, none⟩ = some (.string ((rd_T77 aa ac).f0)) ∧ ci w' af 1 .u64 ((rd_T77 aa ac).f1) ∧ ci w' af 2 .u64 ((rd_T77 aa ac).f2.f0.f0) ∧ ci w' af 3 .u64 ((rd_T77 aa ac).f2.f0.f1) ∧ ci w' af 4 .i64 ((rd_T77 aa ac).f2.f1) ∧ w'.cell? ⟨af, 5, none⟩ = some (.slice aj ((rd_T77 aa ac).f2.f2).length ak) ∧ ci w' ag 0 .u64 an ∧ ci w' ag 1 .u64 ao ∧ ci w' ag 2 .i64 aq ∧ ci w' ag 3 .i64 ar ∧ w'.cell? ⟨ag, 4, none⟩ = some (.slice (some ap) aa.length av)) (ds := []) #[bF, bF, bF, bF, bF, bF, bF, bF, bF, bF, bF, bF, bF, bF, bF, bF, bF, bF, bF, bF, bF, bF, bF, bF, bF, bF, bF, bF, bF, bF, bF, bF, bF, bF, bF, bF, bF, bF, bF, bF, bF, bF, bF] (by kernel_rfl) rfl rfl (K6 ae (Q5 ad)) (fun hh => ?_); refine with_tabW r21_Right.tab7 r21_Right.bits7 (fun HT_ HW_ => ?_);generalize w38.drew = cl at ad ae HB hh ⊢;refine pu 0 ?_;refine ta 1 hh ?_;refine P2 2 3 ?_;refine P2 4 5 ?_;refine P2 7 9 ?_;refine ta 6 hh ?_;refine ta 8 hh ?_;refine ta 10 hh ?_;refine on1 11 (fun K hK => ?_);refine gs Try.func11 #[.agg #[.int .u64 an, .int .u64 ao], .string ((rd_T77 aa ac).f0)] ?_;(with_reducible refine (r05_Sum.calls k2 an ao ((rd_T77 aa ac).f0) aI _ bi.out).mono ?_);rintro e cm ⟨rfl, hb⟩;refine ⟨_, rfl, ?_⟩;replace ad := kb ad hb;replace ae := kb ae hb;replace HB := lb HB hb;clear hb;refine hK.out _ _ (K6 ae (Q5 ad)) (fun hh => ?_);clear hK K;refine nm ?_;refine P2 12 13 ?_;refine P2 14 15 ?_;refine ta 16 hh ?_;refine on1 17 (fun K hK => ?_);refine gs Try.func36 #[.agg #[.int .u64 ((rd_T77 aa ac).f2.f0.f0), .int .u64 ((rd_T77 aa ac).f2.f0.f1), .int .i64 ((rd_T77 aa ac).f2.f1), .slice aj ((rd_T77 aa ac).f2.f2).length ak]] ?_;(with_reducible refine (r14_Right.calls k2 ((rd_T77 aa ac).f2.f0.f0) ((rd_T77 aa ac).f2.f0.f1) ((rd_T77 aa ac).f2.f1) _ _ ((rd_T77 aa ac).f2.f2) true _ ?side1 ?side2 bB.out).mono ?_);(case side1 => exact pc (Kd.C_below aw.out HB.out));(case side2 => exact ax.out);rintro e cn ⟨rfl, hb⟩;refine ⟨_, rfl, ?_⟩;replace ad := kb ad hb;replace ae := kb ae hb;replace HB := lb HB hb;clear hb;refine hK.out _ _ (K6 ae (Q5 ad)) (fun hh => ?_);clear hK K;refine nm ?_;refine P2 18 19 ?_;refine P2 20 21 ?_;refine P2 22 24 ?_;refine ta 23 hh ?_;refine ta 25 hh ?_;refine P2 26 27 ?_;refine P2 28 29 ?_;refine P2 30 32 ?_;refine ta 31 hh ?_;refine ta 33 hh ?_;refine P2 34 35 ?_;refine pu 36 ?_;refine po 37 ?_;refine po 38 ?_;refine po 39 ?_;refine po 40 ?_;refine po 41 ?_;refine pu 42 ?_;refine done_ (done_of HT_.out (by kernel_rfl)) ?_
              try go_wp2
              go_meet
              case rel => exact ⟨_, (true), eR, H', ⟨by have := aE.out; have := HK2.out; first | omega | exact Nat.le_refl _⟩, ⟨pk ad.out⟩, ⟨pk ae.out⟩, ⟨pb HB⟩⟩
           ·replace bC := nt bC;subst bC;rw [if_neg nf] at H;have H' := am H;clear H
            try go_wp2
            generalize ah : (((((aY.setCell ⟨af, 0, none⟩ (.string ((rd_T77 aa ac).f0))).setCell ⟨af, 1, none⟩ (.int .u64 ((rd_T77 aa ac).f1))).setCell ⟨af, 2, none⟩ (.int .u64 ((rd_T77 aa ac).f2.f0.f0))).setCell ⟨af, 3, none⟩ (.int .u64 ((rd_T77 aa ac).f2.f0.f1))).setCell ⟨af, 4, none⟩ (.int .i64 ((rd_T77 aa ac).f2.f1))).setCell ⟨af, 5, none⟩ (.slice aj ((rd_T77 aa ac).f2.f2).length ak) = w42;replace ah := ah.symm;replace ad := bf (f6 ah) ad au.out;replace HB := lf (f6 ah) HB;replace ae := s6 ah ae;clear ah;replace ad := am (blk_drew ad.out);replace ae := am (blk_drew ae.out);replace HB := am (below_drew1 HB.out);refine start_ (n := 43) (S := fun w' => w'.cell? ⟨af, 0, none⟩ = some (.string ((rd_T77 aa ac).f0)) ∧ ci w' af 1 .u64 ((rd_T77 aa ac).f1) ∧ ci w' af 2 .u64 ((rd_T77 aa ac).f2.f0.f0) ∧ ci w' af 3 .u64 ((rd_T77 aa ac).f2.f0.f1) ∧ ci w' af 4 .i64 ((rd_T77 aa ac).f2.f1) ∧ w'.cell? ⟨af, 5, none⟩ = some (.slice aj ((rd_T77 aa ac).f2.f2).length ak) ∧ ci w' ag 0 .u64 an ∧ ci w' ag 1 .u64 ao ∧ ci w' ag 2 .i64 aq ∧ ci w' ag 3 .i64 ar ∧ w'.cell? ⟨ag, 4, none⟩ = some (.slice (some ap) aa.length av)) (ds := []) #[bF, bF, bF, bF, bF, bF, bF, bF, bF, bF, bF, bF, bF, bF, bF, bF, bF, bF, bF, bF, bF, bF, bF, bF, bF, bF, bF, bF, bF, bF, bF, bF, bF, bF, bF, bF, bF, bF, bF, bF, bF, bF, bF] (by kernel_rfl) rfl rfl (K6 ae (Q5 ad)) (fun hh => ?_); refine with_tabW r21_Right.tab7 r21_Right.bits7 (fun HT_ HW_ => ?_);generalize w42.drew = cp at ad ae HB hh ⊢;refine pu 0 ?_;refine ta 1 hh ?_;refine P2 2 3 ?_;refine P2 4 5 ?_;refine P2 7 9 ?_;refine ta 6 hh ?_;refine ta 8 hh ?_;refine ta 10 hh ?_;refine on1 11 (fun K hK => ?_);refine gs Try.func11 #[.agg #[.int .u64 an, .int .u64 ao], .string ((rd_T77 aa ac).f0)] ?_;(with_reducible refine (r05_Sum.calls k2 an ao ((rd_T77 aa ac).f0) aI _ bi.out).mono ?_);rintro e cq ⟨rfl, hb⟩;refine ⟨_, rfl, ?_⟩;replace ad := kb ad hb;replace ae := kb ae hb;replace HB := lb HB hb;clear hb;refine hK.out _ _ (K6 ae (Q5 ad)) (fun hh => ?_);clear hK K;refine nm ?_;refine P2 12 13 ?_;refine P2 14 15 ?_;refine ta 16 hh ?_;refine on1 17 (fun K hK => ?_);refine gs Try.func36 #[.agg #[.int .u64 ((rd_T77 aa ac).f2.f0.f0), .int .u64 ((rd_T77 aa ac).f2.f0.f1), .int .i64 ((rd_T77 aa ac).f2.f1), .slice aj ((rd_T77 aa ac).f2.f2).length ak]] ?_;(with_reducible refine (r14_Right.calls k2 ((rd_T77 aa ac).f2.f0.f0) ((rd_T77 aa ac).f2.f0.f1) ((rd_T77 aa ac).f2.f1) _ _ ((rd_T77 aa ac).f2.f2) false _ ?side1 ?side2 bB.out).mono ?_);(case side1 => exact pc (Kd.C_below aw.out HB.out));(case side2 => exact ax.out);rintro e cr ⟨rfl, hb⟩;refine ⟨_, rfl, ?_⟩;replace ad := kb ad hb;replace ae := kb ae hb;replace HB := lb HB hb;clear hb;refine hK.out _ _ (K6 ae (Q5 ad)) (fun hh => ?_);clear hK K;refine nm ?_;refine P2 18 19 ?_;refine pu 20 ?_;refine po 21 ?_;refine po 22 ?_;refine po 23 ?_;refine po 24 ?_;refine po 25 ?_;refine po 26 ?_;refine P2 27 28 ?_;refine po 29 ?_;refine po 30 ?_;refine po 31 ?_;refine po 32 ?_;refine po 33 ?_;refine po 34 ?_;refine P2 35 36 ?_;refine po 37 ?_;refine po 38 ?_;refine po 39 ?_;refine po 40 ?_;refine po 41 ?_;refine pu 42 ?_;refine done_ (done_of HT_.out (by kernel_rfl)) ?_
            try go_wp2
            go_meet
            case rel => exact ⟨_, (true), eR, H', ⟨by have := aE.out; have := HK2.out; first | omega | exact Nat.le_refl _⟩, ⟨pk ad.out⟩, ⟨pk ae.out⟩, ⟨pb HB⟩⟩
          ·rw [if_neg aJ] at H;have bz := beq_eq_false_iff_ne.mpr aJ;have bA := bne_iff_ne.mpr aJ;have H' := am H;clear H
           try go_wp2
           generalize ah : (((((aY.setCell ⟨af, 0, none⟩ (.string ((rd_T77 aa ac).f0))).setCell ⟨af, 1, none⟩ (.int .u64 ((rd_T77 aa ac).f1))).setCell ⟨af, 2, none⟩ (.int .u64 ((rd_T77 aa ac).f2.f0.f0))).setCell ⟨af, 3, none⟩ (.int .u64 ((rd_T77 aa ac).f2.f0.f1))).setCell ⟨af, 4, none⟩ (.int .i64 ((rd_T77 aa ac).f2.f1))).setCell ⟨af, 5, none⟩ (.slice aj ((rd_T77 aa ac).f2.f2).length ak) = w46;replace ah := ah.symm;replace ad := bf (f6 ah) ad au.out;replace HB := lf (f6 ah) HB;replace ae := s6 ah ae;clear ah;replace ad := am (blk_drew ad.out);replace ae := am (blk_drew ae.out);replace HB := am (below_drew1 HB.out);refine start_ (n := 43) (S := fun w' => w'.cell? ⟨af, 0, none⟩ = some (.string ((rd_T77 aa ac).f0)) ∧ ci w' af 1 .u64 ((rd_T77 aa ac).f1) ∧ ci w' af 2 .u64 ((rd_T77 aa ac).f2.f0.f0) ∧ ci w' af 3 .u64 ((rd_T77 aa ac).f2.f0.f1) ∧ ci w' af 4 .i64 ((rd_T77 aa ac).f2.f1) ∧ w'.cell? ⟨af, 5, none⟩ = some (.slice aj ((rd_T77 aa ac).f2.f2).length ak) ∧ ci w' ag 0 .u64 an ∧ ci w' ag 1 .u64 ao ∧ ci w' ag 2 .i64 aq ∧ ci w' ag 3 .i64 ar ∧ w'.cell? ⟨ag, 4, none⟩ = some (.slice (some ap) aa.length av)) (ds := []) #[bF, bF, bF, bF, bF, bF, bF, bF, bF, bF, bF, bF, bF, bF, bF, bF, bF, bF, bF, bF, bF, bF, bF, bF, bF, bF, bF, bF, bF, bF, bF, bF, bF, bF, bF, bF, bF, bF, bF, bF, bF, bF, bF] (by kernel_rfl) rfl rfl (K6 ae (Q5 ad)) (fun hh => ?_); refine with_tabW r21_Right.tab7 r21_Right.bits7 (fun HT_ HW_ => ?_);generalize w46.drew = cs at ad ae HB hh ⊢;refine pu 0 ?_;refine ta 1 hh ?_;refine P2 2 3 ?_;refine P2 4 5 ?_;refine P2 7 9 ?_;refine ta 6 hh ?_;refine ta 8 hh ?_;refine ta 10 hh ?_;refine on1 11 (fun K hK => ?_);refine gs Try.func11 #[.agg #[.int .u64 an, .int .u64 ao], .string ((rd_T77 aa ac).f0)] ?_;(with_reducible refine (r05_Sum.calls k2 an ao ((rd_T77 aa ac).f0) aI _ bi.out).mono ?_);rintro e ct ⟨rfl, hb⟩;refine ⟨_, rfl, ?_⟩;replace ad := kb ad hb;replace ae := kb ae hb;replace HB := lb HB hb;clear hb;refine hK.out _ _ (K6 ae (Q5 ad)) (fun hh => ?_);clear hK K;refine nm ?_;refine P2 12 13 ?_;refine pu 14 ?_;refine po 15 ?_;refine po 16 ?_;refine po 17 ?_;refine po 18 ?_;refine P2 19 20 ?_;refine po 21 ?_;refine po 22 ?_;refine po 23 ?_;refine po 24 ?_;refine po 25 ?_;refine po 26 ?_;refine P2 27 28 ?_;refine po 29 ?_;refine po 30 ?_;refine po 31 ?_;refine po 32 ?_;refine po 33 ?_;refine po 34 ?_;refine P2 35 36 ?_;refine po 37 ?_;refine po 38 ?_;refine po 39 ?_;refine po 40 ?_;refine po 41 ?_;refine pu 42 ?_;refine done_ (done_of HT_.out (by kernel_rfl)) ?_
           try go_wp2
           go_meet
           case rel => exact ⟨_, (true), eR, H', ⟨by have := aE.out; have := HK2.out; first | omega | exact Nat.le_refl _⟩, ⟨pk ad.out⟩, ⟨pk ae.out⟩, ⟨pb HB⟩⟩
        case rest =>
         clear bn;obtain ⟨kq, aG, rfl, HA, bb, ad, ae, HB⟩ := hcut
         cases kq with
         | zero => exact absurd HA.out (by simp [r21_Right.j2])
         | succ bL =>
          have H := HA.out;clear HA;simp only [r21_Right.j2] at H
          by_cases bD : aG = true
          ·subst bD;rw [if_pos rfl] at H;obtain rfl := Option.some.inj H;go_wp2;go_ret;exact ey (h := pb HB)
          ·replace bD := nt bD;subst bD;rw [if_neg nf] at H
           by_cases a1 : ac > 0
           ·rw [if_pos a1] at H;have bS : decide (0 < ac) = true := decide_eq_true a1;clear a1;obtain ⟨ai, hji51⟩ : ∃ j_ : Int, (wrap64 (ac - 1)) = j_ := ⟨_, rfl⟩;rw [hji51] at H;have hji51w : (IntKind.i64.wrap (ac - 1)) = ai := (i64_w _).trans hji51
            by_cases bG : 0 ≤ (ai)
            ·rw [if_pos bG] at H;have ca := decide_eq_true bG;clear bG
             by_cases bH : (ai) < (aa.length : Int)
             ·rw [if_pos bH] at H;have cb := decide_eq_true bH;clear bH;obtain ⟨bM, b4, H⟩ := ob H;(try dsimp only at H);have Hh_ := am H;clear H
              try go_wp2
              replace ad := am (blk_drew ad.out);replace ae := am (blk_drew ae.out);replace HB := am (below_drew1 HB.out);have bq : 0 ≤ ((ai) : Int) := od;have br : (ai) < (aa.length : Int) := od;obtain ⟨bT, bj, bk, bY, ay, az, aA, aB, aC, aD, a2, a3⟩ := at_T77 bv.out (ai) bq br;have a4 := aD;have a5 := aC;have a6 := aB;have a7 := aA;have a8 := az;have a9 := ay;obtain rfl : ap = bT := (by injection bY);replace ay := hQ HB ay;replace az := hQ HB az;replace aA := hQ HB aA;replace aB := hQ HB aB;replace aC := hQ HB aC;replace aD := hQ HB aD;have a_ := am a3;have bJ := am a2;clear a3 a2;replace bq := eq_true bq;replace br := eq_true br;refine start_ (n := 13) (S := fun w' => ci w' ag 0 .u64 an ∧ ci w' ag 1 .u64 ao ∧ ci w' ag 2 .i64 aq ∧ ci w' ag 3 .i64 ar ∧ w'.cell? ⟨ag, 4, none⟩ = some (.slice (some ap) aa.length av) ∧ w'.cell? ⟨af, 0, none⟩ = some (.string ((rd_T77 aa ac).f0)) ∧ ci w' af 1 .u64 ((rd_T77 aa ac).f1) ∧ ci w' af 2 .u64 ((rd_T77 aa ac).f2.f0.f0) ∧ ci w' af 3 .u64 ((rd_T77 aa ac).f2.f0.f1) ∧ ci w' af 4 .i64 ((rd_T77 aa ac).f2.f1) ∧ w'.cell? ⟨af, 5, none⟩ = some (.slice aj ((rd_T77 aa ac).f2.f2).length ak) ∧ w'.cell? (ap.add (((ai)).toNat * 6)) = some (.string ((rd_T77 aa (ai)).f0)) ∧ w'.cell? ⟨(ap.add (((ai)).toNat * 6)).block, (ap.add (((ai)).toNat * 6)).off + 1, none⟩ = some (.int .u64 ((rd_T77 aa (ai)).f1)) ∧ w'.cell? ⟨(ap.add (((ai)).toNat * 6)).block, (ap.add (((ai)).toNat * 6)).off + 2, none⟩ = some (.int .u64 ((rd_T77 aa (ai)).f2.f0.f0)) ∧ w'.cell? ⟨(ap.add (((ai)).toNat * 6)).block, (ap.add (((ai)).toNat * 6)).off + 3, none⟩ = some (.int .u64 ((rd_T77 aa (ai)).f2.f0.f1)) ∧ w'.cell? ⟨(ap.add (((ai)).toNat * 6)).block, (ap.add (((ai)).toNat * 6)).off + 4, none⟩ = some (.int .i64 ((rd_T77 aa (ai)).f2.f1)) ∧ w'.cell? ⟨(ap.add (((ai)).toNat * 6)).block, (ap.add (((ai)).toNat * 6)).off + 5, none⟩ = some (.slice bj ((rd_T77 aa (ai)).f2.f2).length bk)) (ds := []) #[bF, bF, bF, bF, bF, bF, bF, bF, bF, bF, bF, bF, bF] (by kernel_rfl) rfl rfl (K5 ad (K6 ae ⟨(hQ HB a9), (hQ HB a8), (hQ HB a7), (hQ HB a6), (hQ HB a5), (hQ HB a4)⟩)) (fun hh => ?_); refine with_tabW r21_Right.tab9 r21_Right.bits9 (fun HT_ HW_ => ?_);generalize wc.drew = cu at ad ae HB a_ ay az aA aB aC aD hh ⊢;refine P2 0 1 ?_;refine P2 2 3 ?_;refine P2 5 6 ?_;refine ta 4 hh ?_;refine pu 7 ?_;refine ta 8 hh ?_;refine ta 9 hh ?_;refine on1 10 (fun K hK => ?_);refine goes_ Try.func37 (by kernel_rfl) rfl #[.agg #[.string ((rd_T77 aa (ai)).f0), .int .u64 ((rd_T77 aa (ai)).f1), .int .u64 ((rd_T77 aa (ai)).f2.f0.f0), .int .u64 ((rd_T77 aa (ai)).f2.f0.f1), .int .i64 ((rd_T77 aa (ai)).f2.f1), .slice bj ((rd_T77 aa (ai)).f2.f2).length bk], .agg #[.string ((rd_T77 aa ac).f0), .int .u64 ((rd_T77 aa ac).f1), .int .u64 ((rd_T77 aa ac).f2.f0.f0), .int .u64 ((rd_T77 aa ac).f2.f0.f1), .int .i64 ((rd_T77 aa ac).f2.f1), .slice aj ((rd_T77 aa ac).f2.f2).length ak]] (by rfl) rfl rfl (by (try simp only [List.map_toArray, List.map_cons, List.map_nil]); first | done | (simp only [hji51]; rfl) | rfl | (simp only [List.length_drop, List.length_take]; rfl)) ?_;(with_reducible refine (r21_ahead.calls ((rd_T77 aa (ai)).f0) ((rd_T77 aa (ai)).f1) ((rd_T77 aa (ai)).f2.f0.f0) ((rd_T77 aa (ai)).f2.f0.f1) ((rd_T77 aa (ai)).f2.f1) _ _ ((rd_T77 aa (ai)).f2.f2) ((rd_T77 aa ac).f0) ((rd_T77 aa ac).f1) ((rd_T77 aa ac).f2.f0.f0) ((rd_T77 aa ac).f2.f0.f1) ((rd_T77 aa ac).f2.f1) _ _ ((rd_T77 aa ac).f2.f2) bM _ ?side1 ?side2 ?side3 ?side4 b4.out).mono ?_);(case side1 => exact pc (Kd.C_below a_.out HB.out));(case side2 => exact bJ.out);(case side3 => exact pc (Kd.C_below aw.out HB.out));(case side4 => exact ax.out);rintro e cv ⟨rfl, hb⟩;refine ⟨_, rfl, ?_⟩;replace ad := kb ad hb;replace ae := kb ae hb;replace HB := lb HB hb;clear hb;refine hK.out _ _ (K5 ad (K6 ae ⟨(hQ HB a9), (hQ HB a8), (hQ HB a7), (hQ HB a6), (hQ HB a5), (hQ HB a4)⟩)) (fun hh => ?_);clear hK K;refine nm ?_;refine P2 11 12 ?_;refine done_ (done_of HT_.out (by kernel_rfl)) ?_;have H := Hh_.out;clear Hh_
              by_cases bI : bM = true
              ·subst bI;rw [if_pos rfl] at H;have H' := am H;clear H
               try go_wp2
               go_roundg bL
               case measure => have := aE.out; have := HK2.out; have := bb.out; omega
               case rel => exact ⟨(wrap64 (ac + 1)), eR, H', ⟨by have := aE.out; have := HK2.out; have := bb.out; omega⟩, ⟨pk ad.out⟩, ⟨pb HB⟩⟩
              ·replace bI := nt bI;subst bI;rw [if_neg nf] at H;obtain rfl := Option.some.inj H
               try go_wp2
               go_ret;exact ⟨by first | rfl | (simp [errW_none, errW_some] <;> rfl) | (simp only [← hji51]; first | rfl | (simp [errW_none, errW_some] <;> rfl)) | (simp [*, errW_none, errW_some] <;> rfl), pb HB⟩
             ·exact (na bH H).elim
            ·exact (na bG H).elim
           ·rw [if_neg a1] at H;have bS : decide (0 < ac) = false := decide_eq_false a1;clear a1;have H' := am H;clear H
            try go_wp2
            replace ad := am (blk_drew ad.out);replace ae := am (blk_drew ae.out);replace HB := am (below_drew1 HB.out);refine start_ (n := 13) (S := fun w' => True) (ds := []) #[bF, bF, bF, bF, bF, bF, bF, bF, bF, bF, bF, bF, bF] (by kernel_rfl) rfl rfl trivial (fun hh => ?_); refine with_tabW r21_Right.tab9 r21_Right.bits9 (fun HT_ HW_ => ?_);generalize wc.drew = cw at ad ae HB hh ⊢;refine P2 0 1 ?_;refine pu 2 ?_;refine po 3 ?_;refine po 4 ?_;refine po 5 ?_;refine po 6 ?_;refine po 7 ?_;refine po 8 ?_;refine po 9 ?_;refine po 10 ?_;refine po 11 ?_;refine pu 12 ?_;refine done_ (done_of HT_.out (by kernel_rfl)) ?_
            try go_wp2
            go_roundg bL
            case measure => have := aE.out; have := HK2.out; have := bb.out; omega
            case rel => exact ⟨(wrap64 (ac + 1)), eR, H', ⟨by have := aE.out; have := HK2.out; have := bb.out; omega⟩, ⟨pk ad.out⟩, ⟨pb HB⟩⟩
       ·exact (na bw H).elim
      ·rw [if_neg aP] at H;have bN := decide_eq_false aP;clear aP;obtain rfl := Option.some.inj H;have b1 := g5 ad;go_wp2;go_ret;exact ey (h := pb HB)
end
section
set_option maxHeartbeats 400000000
set_option maxRecDepth 100000

attribute [local go_sem high] eqA68
def r14_Same.l0 : Nat → List (S68) → List (S68) → Int → Option (Bool)
 | 0, _, _, _ => none
 | k + 1, a, b, c => if c < (a.length : Int) then (if 0 ≤ c then (if c < (b.length : Int) then (if (!((((rd_T68 a c).f0).toList) == (((rd_T68 b c).f0).toList)) || (!(((rd_T68 a c).f1) == ((rd_T68 b c).f1)) || ((!(((rd_T68 a c).f2.f0) == ((rd_T68 b c).f2.f0)) || (!(((rd_T68 a c).f2.f1) == ((rd_T68 b c).f2.f1))))))) = true then (some false) else (r14_Same.l0 k a b (wrap64 (c + 1)))) else (none)) else (none)) else (some true)
def r14_Same.f (k : Nat) (a b : List (S68)) : Option (Bool) := if (a.length : Int) = (b.length : Int) then (r14_Same.l0 k a b 0) else (some false)
theorem r14_Same.mono_l : ∀ k, (∀ y0 y1 y2, LeO (r14_Same.l0 k y0 y1 y2) (r14_Same.l0 (k + 1) y0 y1 y2))
 | 0 => fun _ _ _ r h => by simp [r14_Same.l0] at h
 | k + 1 => by
  have ih0 := r14_Same.mono_l k
  ·intro y0 y1 y2
   unfold r14_Same.l0
   with_reducible repeat' first | apply ih0 | exact LeO.refl _ | exact LeO.none _ | refine LeO.ite ?_ ?_ | refine LeO.bind ?_ (fun _ => ?_)
theorem r14_Same.mono : ∀ a0 a1 k, LeO (r14_Same.f k a0 a1) (r14_Same.f (k + 1) a0 a1) := by
 intro a0 a1 k;have ih0 := r14_Same.mono_l k
 unfold r14_Same.f
 with_reducible repeat' first | apply ih0 | exact LeO.refl _ | exact LeO.none _ | refine LeO.ite ?_ ?_ | refine LeO.bind ?_ (fun _ => ?_)
theorem r14_Same.calls (k : Nat) (A0 : Option Addr) (c0 : Nat) (l0 : List (S68)) (A1 : Option Addr) (c1 : Nat) (l1 : List (S68)) (r : Bool) (w : World) (az : Kd.C k68 w A0 l0.length l0) (aA : l0.length ≤ c0) (aB : Kd.C k68 w A1 l1.length l1) (aC : l1.length ≤ c1) (h : r14_Same.f k l0 l1 = some r) :
  Calls Try.prog 15 #[.slice A0 l0.length c0, .slice A1 l1.length c1] w fun e w' => e = .returned (.bool r) ∧ Drawn0 w w' := by
 have hu68 := Try.underlying68;have aD := am az;have aJ := am aA;clear az aA;have aE := am aB;have aK := am aC;clear aB aC;unfold r14_Same.f at h;have H := h;clear h
 by_cases c3 : (l0.length : Int) = (l1.length : Int)
 rotate_left
 ·rw [if_neg c3] at H;have au := beq_eq_false_iff_ne.mpr c3;have av := bne_iff_ne.mpr c3
  have aw : (l0.length == l1.length) = false := by first | simpa using c3 | (simp at c3 ⊢; omega)
  obtain rfl := Option.some.inj H;go_enter Try.func15, Try.ntmps15;go_wp2
  repeat (go_quiet (fail); try go_wp2)
  go_ret;exact ⟨by first | rfl | (simp; done) | (simp [*]; done), by repeat (first | exact Drawn0.refl _ | apply Drawn0.step)⟩
 rw [if_pos c3] at H;have au := beq_iff_eq.mpr c3;have av := bne_eq_false_iff_eq.mpr c3
 have aw : (l0.length == l1.length) = true := by first | simpa using c3 | (simp at c3 ⊢; omega)
 clear c3;have H' := am H;clear H;go_enter Try.func15, Try.ntmps15;go_wp2
 repeat (go_quiet (fail); try go_wp2)
 go_loopg [5] k (fun kq v5 w' => ∃ (aa : Int), v5 = .int .i64 aa ∧ Aside0 (r14_Same.l0 kq l0 l1 aa = some r) ∧ Aside0 (kq ≤ k) ∧ Drawn0 w w')
 case atStart => exact ⟨(0), eR, H', ⟨Nat.le_refl _⟩, by repeat (first | exact Drawn0.refl _ | apply Drawn0.step)⟩
 case round =>
  clear H' au av aw;obtain ⟨aa, rfl, HA, HK1, ⟨m1, rfl⟩⟩ := hrel
  cases gk with
  | zero => exact absurd HA.out (by simp [r14_Same.l0])
  | succ k1 =>
   have H := HA.out;clear HA;simp only [r14_Same.l0] at H
   by_cases c4 : aa < (l0.length : Int)
   ·rw [if_pos c4] at H;have aF := decide_eq_true c4;clear c4
    by_cases c5 : 0 ≤ aa
    ·rw [if_pos c5] at H;have aH := decide_eq_true c5;clear c5
     by_cases c6 : aa < (l1.length : Int)
     ·rw [if_pos c6] at H;have aI := decide_eq_true c6;clear c6
      by_cases c7 : (!((((rd_T68 l0 aa).f0).toList) == (((rd_T68 l1 aa).f0).toList)) || (!(((rd_T68 l0 aa).f1) == ((rd_T68 l1 aa).f1)) || ((!(((rd_T68 l0 aa).f2.f0) == ((rd_T68 l1 aa).f2.f0)) || (!(((rd_T68 l0 aa).f2.f1) == ((rd_T68 l1 aa).f2.f1))))))) = true
      ·rw [if_pos c7] at H;have aG : (!((((rd_T68 l0 aa).f0).toList) == (((rd_T68 l1 aa).f0).toList)) || (!(((rd_T68 l0 aa).f1) == ((rd_T68 l1 aa).f1)) || ((!(((rd_T68 l0 aa).f2.f0) == ((rd_T68 l1 aa).f2.f0)) || (!(((rd_T68 l0 aa).f2.f1) == ((rd_T68 l1 aa).f2.f1))))))) = true := c7;clear c7;obtain rfl := Option.some.inj H;have ac : 0 ≤ (aa : Int) := od;have ad : aa < (l0.length : Int) := od;obtain ⟨ax, ag, ai, aj, ak, an⟩ := at_T68 aD.out aa ac ad;cases ag;replace ac := eq_true ac;replace ad := eq_true ad;have ae : 0 ≤ (aa : Int) := od;have af : aa < (l1.length : Int) := od;obtain ⟨ay, ah, ao, ap, aq, ar⟩ := at_T68 aE.out aa ae af;cases ah;replace ae := eq_true ae;replace af := eq_true af
       go_wp2
       repeat (go_quiet (fail); try go_wp2)
       go_ret;exact ⟨by first | rfl | (simp; done) | (simp [*]; done), by repeat (first | exact Drawn0.refl _ | apply Drawn0.step)⟩
      ·rw [if_neg c7] at H
       have aG : (!((((rd_T68 l0 aa).f0).toList) == (((rd_T68 l1 aa).f0).toList)) || (!(((rd_T68 l0 aa).f1) == ((rd_T68 l1 aa).f1)) || ((!(((rd_T68 l0 aa).f2.f0) == ((rd_T68 l1 aa).f2.f0)) || (!(((rd_T68 l0 aa).f2.f1) == ((rd_T68 l1 aa).f2.f1))))))) = false := by simpa using c7
       clear c7;have H' := am H;clear H;have ac : 0 ≤ (aa : Int) := od;have ad : aa < (l0.length : Int) := od;obtain ⟨ax, ag, ai, aj, ak, an⟩ := at_T68 aD.out aa ac ad;cases ag;replace ac := eq_true ac;replace ad := eq_true ad;have ae : 0 ≤ (aa : Int) := od;have af : aa < (l1.length : Int) := od;obtain ⟨ay, ah, ao, ap, aq, ar⟩ := at_T68 aE.out aa ae af;cases ah;replace ae := eq_true ae;replace af := eq_true af
       go_wp2
       repeat (go_quiet (fail); try go_wp2)
       go_roundg k1
       case measure => have := HK1.out; omega
       case rel => exact ⟨(wrap64 (aa + 1)), eR, H', ⟨by have := HK1.out; omega⟩, by repeat (first | exact Drawn0.refl _ | apply Drawn0.step)⟩
     ·exact (na c6 H).elim
    ·exact (na c5 H).elim
   ·rw [if_neg c4] at H;have aF := decide_eq_false c4;clear c4;obtain rfl := Option.some.inj H;go_wp2
    repeat (go_quiet (fail); try go_wp2)
    go_ret;exact ⟨by first | rfl | (simp; done) | (simp [*]; done), by repeat (first | exact Drawn0.refl _ | apply Drawn0.step)⟩
end
end Go.Proofs.Ytpbiobbddgipkaa.H
