import Derived.Test.YtmfffbafldbihaaHx0
import Derived.Test.YtmfffbafldbihaaHx6
namespace Go.Proofs.Ytmfffbafldbihaa.H
open Go.RowKit Go.Proofs.YtmfffbafldbihaaW.PrintWords Go.Proofs.YtmfffbafldbihaaW.PrintLast Go.Proofs.YtmfffbafldbihaaW.PrintMore Go.Proofs.YtmfffbafldbihaaW.Sq
attribute [local go_sem] max2_int min2_int max_two min_two max_three min_three max_four min_four
set_option linter.unusedVariables false
set_option linter.unusedSimpArgs false

def sip_Done.l0 : Nat → Int → Int → Int → Int → Int → Option (Int)
 | 0, _, _, _, _, _ => none
 | k + 1, x22, x142000, x142001, x142002, x142003 => if x22 < 4 then ((sip_turn.f x142000 x142001 x142002 x142003).bind fun bt142 => (sip_Done.l0 k (wrap64 (x22 + 1)) bt142.1 bt142.2.1 bt142.2.2.1 bt142.2.2.2)) else (some (Go.bits .xor .u64 (Go.bits .xor .u64 (Go.bits .xor .u64 x142000 x142001) x142002) x142003))
def sip_Done.f (k : Nat) (a0_0 : Int) (a0_1 : Int) (a0_2 : Int) (a0_3 : Int) (a0_4 : ByteArray) (a0_5 : Int) : Option (Int) := (sip_right.f a0_0 a0_1 a0_2 a0_3 a0_4 a0_5).bind fun t135 => (if t135 = true then ((sip_number.f k a0_4).bind fun t136 => ((sip_take.f a0_0 a0_1 a0_2 a0_3 (Go.bits .or .u64 t136 (IntKind.u64.wrap ((IntKind.u64.wrap (a0_5)) * 72057594037927936)))).bind fun bt137 => (sip_Done.l0 k 0 bt137.1 bt137.2.1 (Go.bits .xor .u64 bt137.2.2.1 255) bt137.2.2.2))) else (some 0))
theorem sip_Done.mono_l : ∀ k, (∀ y0 y1 y2 y3 y4, LeO (sip_Done.l0 k y0 y1 y2 y3 y4) (sip_Done.l0 (k + 1) y0 y1 y2 y3 y4))
 | 0 => fun _ _ _ _ _ r h => by simp [sip_Done.l0] at h
 | k + 1 => by
  have ih0 := sip_Done.mono_l k
  ·intro y0 y1 y2 y3 y4
   unfold sip_Done.l0
   repeat' first
   | (with_reducible exact ih0 _ _ _ _ _)
   | (with_reducible exact sip_number.mono _ _)
   | (with_reducible exact LeO.refl _)
   | (with_reducible exact LeO.none _)
   | (with_reducible refine LeO.ite ?_ ?_)
   | (with_reducible refine LeO.bind ?_ (fun _ => ?_))
theorem sip_Done.mono : ∀ a0 a1 a2 a3 a4 a5 k, LeO (sip_Done.f k a0 a1 a2 a3 a4 a5) (sip_Done.f (k + 1) a0 a1 a2 a3 a4 a5) := by
 intro a0 a1 a2 a3 a4 a5 k
 have ih0 := sip_Done.mono_l k
 unfold sip_Done.f
 repeat' first
   | (with_reducible exact ih0 _ _ _ _ _)
   | (with_reducible exact sip_number.mono _ _)
   | (with_reducible exact LeO.refl _)
   | (with_reducible exact LeO.none _)
   | (with_reducible refine LeO.ite ?_ ?_)
   | (with_reducible refine LeO.bind ?_ (fun _ => ?_))
def sip_Done.T3 : Bool × List (List Nat × List Nat) := (true, [([], []), ([0], [0]), ([], []), ([2], [2]), ([3], [3]), ([], []), ([5], [5]), ([6], [6]), ([7], [7]), ([4, 8], [4, 8]), ([1, 9, 4], [1, 9]), ([], []), ([11, 10, 10, 0, 1, 2, 3, 4, 5, 6, 7, 8, 9, 10, 11], [10, 11])])
def sip_Done.B3 : List Nat := [0, 1, 0, 4, 12, 0, 32, 96, 224, 508, 1023, 0, 4095]
theorem sip_Done.tab3 : rtab .any (opsOf Try.f40 3) = sip_Done.T3 := by kernel_rfl
theorem sip_Done.bits3 : waitsOk sip_Done.T3.2 sip_Done.B3 = true := by kernel_rfl
set_option maxHeartbeats 8000000 in
set_option maxRecDepth 100000 in
theorem sip_Done.calls (k : Nat) (ah : Int) (ai : Int) (aj : Int) (ak : Int) (ao : ByteArray) (ag : Int) (r : Int) (w : World) (h : sip_Done.f k ah ai aj ak ao ag = some r) :
  Calls Try.prog 40 #[.agg #[.int .u64 ah, .int .u64 ai, .int .u64 aj, .int .u64 ak, .string ao, .int .i64 ag]] w fun e w' => e = .returned (.int .u64 r) ∧ Below w.heap.size w w' := by
 have hu85 := Try.underlying85;have hu75 := Try.underlying75;have HB := am (Below.refl w.heap.size w);have H : ((sip_right.f ah ai aj ak ao ag).bind fun aH => (if aH = true then ((sip_number.f k ao).bind fun au => ((sip_take.f ah ai aj ak (Go.bits .or .u64 au (IntKind.u64.wrap ((IntKind.u64.wrap (ag)) * 72057594037927936)))).bind fun bt137 => (sip_Done.l0 k 0 bt137.1 bt137.2.1 (Go.bits .xor .u64 bt137.2.2.1 255) bt137.2.2.2))) else (some 0))) = some r := h;clear h;replace H := Option.bind_eq_some_iff.mp H;obtain ⟨aH, aJ, H⟩ := H
 try dsimp only at H
 have A2 := am aJ;clear aJ
 by_cases c3 : aH = true
 rotate_left
 ·replace c3 := Bool.eq_false_iff.mpr c3;subst c3
  have H1 : (some 0) = some r := by rw [if_neg (show ¬ (false = true) by decide)] at H; exact H
  clear H;have H := H1;clear H1;obtain rfl := Option.some.inj H
  go_enter Try.func40, Try.ntmps40
  go_wp2_with (first | ((with_reducible refine gate_dst (N := 1) rfl ?_); refine be 1 #[.int .u64 ah, .int .u64 ai, .int .u64 aj, .int .u64 ak, .string ao, .int .i64 ag] 85 ?_; intro af hg ch hbox hb; have aa := am (hbox); have bc := gq hg HB; have bd := gq hg HB; replace HB := lb HB hb; clear hb hbox hg; obtain ⟨bl, bm, bn, bo, bp, bq, br, bs, bu, bv, bw, bz⟩ := g6 aa) | ((with_reducible refine gate_callee (f := 54) rfl ?_); refine gl (some 5) Try.func54 #[.agg #[.int .u64 ah, .int .u64 ai, .int .u64 aj, .int .u64 ak, .string ao, .int .i64 ag]] ?_; (with_reducible refine (sip_right.calls ah ai aj ak ao ag false _ A2.out).mono ?_); rintro e ci ⟨rfl, hb⟩; refine ⟨_, rfl, ?_⟩; replace aa := kb aa hb; replace HB := lb HB hb; (try clear hb); (try clear hb2); (try clear hk); (try clear hi)))
  go_ret
  exact ⟨by first | rfl | (simp [errW_none, errW_some] <;> rfl) | (simp [*, errW_none, errW_some] <;> rfl), pb HB⟩
 subst c3
 have H1 : ((sip_number.f k ao).bind fun au => ((sip_take.f ah ai aj ak (Go.bits .or .u64 au (IntKind.u64.wrap ((IntKind.u64.wrap (ag)) * 72057594037927936)))).bind fun bt137 => (sip_Done.l0 k 0 bt137.1 bt137.2.1 (Go.bits .xor .u64 bt137.2.2.1 255) bt137.2.2.2))) = some r := by rw [if_pos rfl] at H; exact H
 clear H;have H := H1;clear H1;replace H := Option.bind_eq_some_iff.mp H;obtain ⟨au, bh, H⟩ := H
 try dsimp only at H
 have A4 := am bh;clear bh;replace H := Option.bind_eq_some_iff.mp H;obtain ⟨⟨aw, ay, aC, aD⟩, bi, H⟩ := H
 try dsimp only at H
 have A5 := am bi;clear bi;have H' := am H;clear H
 go_enter Try.func40, Try.ntmps40
 try go_wp2_with (first | ((with_reducible refine gate_dst (N := 1) rfl ?_); refine be 1 #[.int .u64 ah, .int .u64 ai, .int .u64 aj, .int .u64 ak, .string ao, .int .i64 ag] 85 ?_; intro af hg w6 hbox hb; have aa := am (hbox); have bc := gq hg HB; have bd := gq hg HB; replace HB := lb HB hb; clear hb hbox hg; obtain ⟨aS, aT, aU, aV, aW, aX, aY, aZ, a0, a1, a2, a3⟩ := g6 aa) | ((with_reducible refine gate_callee (f := 54) rfl ?_); refine gl (some 5) Try.func54 #[.agg #[.int .u64 ah, .int .u64 ai, .int .u64 aj, .int .u64 ak, .string ao, .int .i64 ag]] ?_; (with_reducible refine (sip_right.calls ah ai aj ak ao ag true _ A2.out).mono ?_); rintro e w8 ⟨rfl, hb⟩; refine ⟨_, rfl, ?_⟩; replace aa := kb aa hb; replace HB := lb HB hb; (try clear hb); (try clear hb2); (try clear hk); (try clear hi)))
 replace aa := am (blk_drew aa.out);replace HB := am (below_drew1 HB.out)
 refine start_ (n := 13) (S := fun w' => w'.cell? ⟨af, 0, none⟩ = some (.int .u64 ah) ∧ w'.cell? ⟨af, 1, none⟩ = some (.int .u64 ai) ∧ w'.cell? ⟨af, 2, none⟩ = some (.int .u64 aj) ∧ w'.cell? ⟨af, 3, none⟩ = some (.int .u64 ak) ∧ w'.cell? ⟨af, 4, none⟩ = some (.string ao) ∧ w'.cell? ⟨af, 5, none⟩ = some (.int .i64 ag)) (ds := []) #[false, false, false, false, false, false, false, false, false, false, false, false, false] (by kernel_rfl) rfl rfl ⟨ce aa 0, ce aa 1, ce aa 2, ce aa 3, ce aa 4, ce aa 5⟩ (fun hHeld => ?_); refine with_tabW sip_Done.tab3 sip_Done.bits3 (fun HT_ HW_ => ?_)
 generalize w8.drew = w9 at aa HB hHeld ⊢
 refine pu 0 ?_
 refine pu 2 ?_
 refine pu 5 ?_
 refine ta 1 hHeld ?_
 refine ta 3 hHeld ?_
 refine ta 6 hHeld ?_
 refine pu 7 ?_
 refine pu 8 ?_
 refine join_ (σ := Nat) 1 #[true, true, true, true, true, true, true, true, true, true, true, true, false] (fun s_ => [(11, .int .u64 au), (17, .agg #[.int .u64 aw, .int .u64 ay, .int .u64 aC, .int .u64 aD]), (3, .pointer (some ⟨s_, 0, none⟩)), (16, .int .u64 (Go.bits .or .u64 au (IntKind.u64.wrap ((IntKind.u64.wrap (ag)) * 72057594037927936))))]) (fun s_ w' => (w'.cell? ⟨af, 0, none⟩ = some (.int .u64 ah) ∧ w'.cell? ⟨af, 1, none⟩ = some (.int .u64 ai) ∧ w'.cell? ⟨af, 2, none⟩ = some (.int .u64 aj) ∧ w'.cell? ⟨af, 3, none⟩ = some (.int .u64 ak) ∧ w'.cell? ⟨af, 4, none⟩ = some (.string ao) ∧ w'.cell? ⟨af, 5, none⟩ = some (.int .i64 ag)) ∧ (w'.heap[af]? = some (.cells #[.int .u64 ah, .int .u64 ai, .int .u64 aj, .int .u64 ak, .string ao, .int .i64 ag] 85 (0, 0))) ∧ (w'.heap[s_]? = some (.cells #[.int .u64 0, .int .u64 0, .int .u64 0, .int .u64 0] 75 (0, 0))) ∧ (w.heap.size ≤ s_) ∧ (w.heap.size ≤ s_) ∧ (af ≠ s_) ∧ (s_ ≠ af) ∧ (Below w.heap.size w w')) ?_ ?_
 ·rintro av aB ⟨hS_, a4, a5, a6, a7, a8, a9, a_⟩
  (try dsimp only at a4 a5 a6 a7 a8 a9 a_);replace aa := am a4;have ad := am a5;have az := am a6;have aA := am a7;have ac := am a8;have ae := am a9;replace HB := am a_;clear a4 a5 a6 a7 a8 a9 a_;have hHeld : aB.cell? ⟨af, 0, none⟩ = some (.int .u64 ah) ∧ aB.cell? ⟨af, 1, none⟩ = some (.int .u64 ai) ∧ aB.cell? ⟨af, 2, none⟩ = some (.int .u64 aj) ∧ aB.cell? ⟨af, 3, none⟩ = some (.int .u64 ak) ∧ aB.cell? ⟨af, 4, none⟩ = some (.string ao) ∧ aB.cell? ⟨af, 5, none⟩ = some (.int .i64 ag) := hS_
  refine norm_ (a' := ?_) ?_ ?_
  rotate_left
  ·simp only [putAll, Act.put, List.setIfInBounds_toArray, List.set_cons_zero, List.set_cons_succ]
   rfl
  refine one_ (i := 12) (N := none) #[true, true, true, true, true, true, true, true, true, true, true, true, true] rfl rfl (one_of HT_.out (by kernel_rfl)) (by decide) (fun K hK => ?_)
  have cc : aB.cell? ⟨av, 0, none⟩ = some (.int .u64 0) := ce ad 0;have b3 := blk_frozen ad.out 0;have bA := ac.out;have hms13_0 := ae.out;have cd : aB.cell? ⟨av, 1, none⟩ = some (.int .u64 0) := ce ad 1;have b4 := blk_frozen ad.out 1;have bB := ac.out;have hms14_0 := ae.out;have cf : aB.cell? ⟨av, 2, none⟩ = some (.int .u64 0) := ce ad 2;have b5 := blk_frozen ad.out 2;have bC := ac.out;have hms15_0 := ae.out;have cg : aB.cell? ⟨av, 3, none⟩ = some (.int .u64 0) := ce ad 3;have b6 := blk_frozen ad.out 3;have bD := ac.out;have hms16_0 := ae.out
  refine skip_ (w1 := ?_) (by rfl) rfl ?_ ?_
  rotate_left
  ·go_simp
   rfl
  refine hK.out _ _ ⟨(q4 ac.out hHeld.1), (q4 ac.out hHeld.2.1), (q4 ac.out hHeld.2.2.1), (q4 ac.out hHeld.2.2.2.1), (q4 ac.out hHeld.2.2.2.2.1), (q4 ac.out hHeld.2.2.2.2.2)⟩ (fun hHeld => ?_)
  clear hK K
  refine done_ (done_of HT_.out (by kernel_rfl)) ?_
  have b7 := ae.out;have b8 := ac.out;obtain ⟨aK, aL, aM, aN, aO, aP, aQ, aR⟩ := g4 ad
  try go_wp2
  go_loopg [22] k (fun kq b2 w' => ∃ (ax : Int) (ar : Int) (aq : Int) (ap : Int) (an : Int), b2 = .int .i64 ax ∧ Aside0 (sip_Done.l0 kq ax ar aq ap an = some r) ∧ Aside0 (kq ≤ k) ∧ Aside0 (w'.heap[af]? = some (.cells #[.int .u64 ah, .int .u64 ai, .int .u64 aj, .int .u64 ak, .string ao, .int .i64 ag] 85 (0, 0))) ∧ Aside0 (w'.heap[av]? = some (.cells #[.int .u64 ar, .int .u64 aq, .int .u64 ap, .int .u64 an] 75 (0, 0))) ∧ Aside0 (Below w.heap.size w w'))
  case atStart => exact ⟨(0), (aw), (ay), (Go.bits .xor .u64 aC 255), (aD), (by first | rfl | (simp; done) | (simp [*]; done)), H', ⟨Nat.le_refl _⟩, ⟨by refine pk ?_; refine blk_far ?_ ac.out _; refine pk ?_; refine blk_far ?_ ac.out _; refine pk ?_; refine blk_far ?_ ac.out _; refine pk ?_; refine blk_far ?_ ac.out _; refine pk ?_; refine blk_far ?_ ac.out _; refine pk ?_; exact aa.out⟩, ⟨by refine pk ?_; refine blk_put (cs := #[.int .u64 aw, .int .u64 ay, .int .u64 aC, .int .u64 aD]) ?_ 2 _ rfl; refine pk ?_; refine blk_put (cs := #[.int .u64 aw, .int .u64 ay, .int .u64 aC, .int .u64 0]) ?_ 3 _ rfl; refine pk ?_; refine blk_put (cs := #[.int .u64 aw, .int .u64 ay, .int .u64 0, .int .u64 0]) ?_ 2 _ rfl; refine pk ?_; refine blk_put (cs := #[.int .u64 aw, .int .u64 0, .int .u64 0, .int .u64 0]) ?_ 1 _ rfl; refine pk ?_; refine blk_put (cs := #[.int .u64 0, .int .u64 0, .int .u64 0, .int .u64 0]) ?_ 0 _ rfl; refine pk ?_; exact ad.out⟩, ⟨pb HB⟩⟩
  case round =>
   clear H';(try clear c1);(try clear p2);(try clear c3);(try clear c4);(try clear c5);(try clear c17);(try clear aK aL aM aN);(try clear aS aT aU aV aW aX);(try clear aO aP aQ aR);(try clear aY aZ a0 a1 a2 a3);obtain ⟨ax, ar, aq, ap, an, rfl, HA, HK1, aa, ad, HB⟩ := hrel
   cases gk with
   | zero => exact absurd HA.out (by simp [sip_Done.l0])
   | succ k1 =>
    have H := HA.out;clear HA
    simp only [sip_Done.l0] at H
    by_cases aF : ax < 4
    ·rw [if_pos aF] at H;have bg : decide (ax < 4) = true := decide_eq_true aF;clear aF;replace H := Option.bind_eq_some_iff.mp H;obtain ⟨⟨aE, aG, aI, ba⟩, bb, H⟩ := H
     try dsimp only at H
     have aJ := am bb;clear bb;have H' := am H;clear H;have b9 := ae.out;have b_ := ac.out;obtain ⟨bE, bF, bG, bH, bI, bJ, bK, bL⟩ := g4 ad
     go_wp2_with (first | ((with_reducible refine gate_callee (f := 57) rfl ?_); refine gl (some 25) Try.func57 #[.agg #[.int .u64 ar, .int .u64 aq, .int .u64 ap, .int .u64 an]] ?_; (with_reducible refine (sip_turn.calls ar aq ap an aE aG aI ba _ aJ.out).mono ?_); rintro e cj ⟨rfl, hb⟩; refine ⟨_, rfl, ?_⟩; replace aa := kb aa hb; replace ad := kb ad hb; replace HB := lb HB hb; (try clear hb); (try clear hb2); (try clear hk); (try clear hi); obtain ⟨bM, bN, bO, bP, bQ, bR, bS, bT⟩ := g4 ad))
     go_roundg k1
     case measure => have := HK1.out; omega
     case rel => exact ⟨(wrap64 (ax + 1)), (aE), (aG), (aI), (ba), (by first | rfl | (simp; done) | (simp [*]; done)), H', ⟨by have := HK1.out; omega⟩, ⟨by refine pk ?_; refine blk_far ?_ ac.out _; refine pk ?_; refine blk_far ?_ ac.out _; refine pk ?_; refine blk_far ?_ ac.out _; refine pk ?_; refine blk_far ?_ ac.out _; refine pk ?_; exact aa.out⟩, ⟨by refine pk ?_; refine blk_put (cs := #[.int .u64 aE, .int .u64 aG, .int .u64 aI, .int .u64 an]) ?_ 3 _ rfl; refine pk ?_; refine blk_put (cs := #[.int .u64 aE, .int .u64 aG, .int .u64 ap, .int .u64 an]) ?_ 2 _ rfl; refine pk ?_; refine blk_put (cs := #[.int .u64 aE, .int .u64 aq, .int .u64 ap, .int .u64 an]) ?_ 1 _ rfl; refine pk ?_; refine blk_put (cs := #[.int .u64 ar, .int .u64 aq, .int .u64 ap, .int .u64 an]) ?_ 0 _ rfl; refine pk ?_; exact ad.out⟩, ⟨pb HB⟩⟩
    ·rw [if_neg aF] at H;have bg : decide (ax < 4) = false := decide_eq_false aF;clear aF;obtain rfl := Option.some.inj H;have ca := ae.out;have cb := ac.out;obtain ⟨bU, bV, bW, bX, bY, bZ, b0, b1⟩ := g4 ad
     go_wp2
     go_ret
     exact ⟨by first | rfl | (simp [errW_none, errW_some] <;> rfl) | (simp [*, errW_none, errW_some] <;> rfl), pb HB⟩
 intro hCont
 refine two_ (i := 4) (j := 11) (Ni := some 11) (Nj := some 3) #[true, true, true, true, true, true, true, true, true, false, false, false, false] #[true, true, true, true, false, true, true, true, true, false, false, true, false] rfl rfl rfl rfl (two_of HT_.out (by kernel_rfl)) (by decide) (by decide) (fun K hK => ?_) (fun K hK => ?_)
 rotate_left
 ·skip
  refine bx 3 #[.int .u64 0, .int .u64 0, .int .u64 0, .int .u64 0] 75 ?_
  intro av hg bj hbox hb
  have ad := am (hbox);have az := gq hg HB;have aA := gq hg HB;replace HB := lb HB hb;obtain ⟨ac, ae, -, -⟩ := pm hg aa;replace aa := kb aa hb;clear hb hbox hg
  refine hK.out _ _ ⟨ce aa 0, ce aa 1, ce aa 2, ce aa 3, ce aa 4, ce aa 5⟩ (fun hHeld => ?_)
  clear hK K
  refine nm ?_
  refine on1 4 (fun K hK => ?_)
  refine gs Try.func56 #[.string ao] ?_
  with_reducible refine (sip_number.calls k ao au _ A4.out).mono ?_
  rintro e w' ⟨rfl, ⟨nd, rfl⟩⟩
  refine ⟨_, rfl, ?_⟩
  refine hK.out _ _ ⟨ce aa 0, ce aa 1, ce aa 2, ce aa 3, ce aa 4, ce aa 5⟩ (fun hHeld => ?_)
  clear hK K
  refine nm ?_
  refine pu 9 ?_
  refine on1 10 (fun K hK => ?_)
  refine gs Try.func55 #[.agg #[.int .u64 ah, .int .u64 ai, .int .u64 aj, .int .u64 ak], .int .u64 (Go.bits .or .u64 au (IntKind.u64.wrap ((IntKind.u64.wrap (ag)) * 72057594037927936)))] ?_
  with_reducible refine (sip_take.calls ah ai aj ak (Go.bits .or .u64 au (IntKind.u64.wrap ((IntKind.u64.wrap (ag)) * 72057594037927936))) aw ay aC aD _ A5.out).mono ?_
  rintro e bk ⟨rfl, hb⟩
  refine ⟨_, rfl, ?_⟩
  replace aa := kb aa hb;replace ad := kb ad hb;replace HB := lb HB hb
  (try clear hb)
  (try clear hb2)
  (try clear hk)
  (try clear hi)
  refine hK.out _ _ ⟨ce aa 0, ce aa 1, ce aa 2, ce aa 3, ce aa 4, ce aa 5⟩ (fun hHeld => ?_)
  clear hK K
  refine nm ?_
  exact nj (hCont (av) _ ⟨hHeld, (pk aa.out), (pk ad.out), az.out, aA.out, ac.out, ae.out, (pb HB)⟩)
 skip
 refine gs Try.func56 #[.string ao] ?_
 with_reducible refine (sip_number.calls k ao au _ A4.out).mono ?_
 rintro e w' ⟨rfl, ⟨nd, rfl⟩⟩
 refine ⟨_, rfl, ?_⟩
 refine hK.out _ _ ⟨ce aa 0, ce aa 1, ce aa 2, ce aa 3, ce aa 4, ce aa 5⟩ (fun hHeld => ?_)
 clear hK K
 refine nm ?_
 refine pu 9 ?_
 refine two_ (i := 10) (j := 11) (Ni := some 17) (Nj := some 3) #[true, true, true, true, true, true, true, true, true, true, true, false, false] #[true, true, true, true, true, true, true, true, true, true, false, true, false] rfl rfl rfl rfl (two_of HT_.out (by kernel_rfl)) (by decide) (by decide) (fun K hK => ?_) (fun K hK => ?_)
 ·skip
  refine gs Try.func55 #[.agg #[.int .u64 ah, .int .u64 ai, .int .u64 aj, .int .u64 ak], .int .u64 (Go.bits .or .u64 au (IntKind.u64.wrap ((IntKind.u64.wrap (ag)) * 72057594037927936)))] ?_
  with_reducible refine (sip_take.calls ah ai aj ak (Go.bits .or .u64 au (IntKind.u64.wrap ((IntKind.u64.wrap (ag)) * 72057594037927936))) aw ay aC aD _ A5.out).mono ?_
  rintro e bj ⟨rfl, hb⟩
  refine ⟨_, rfl, ?_⟩
  replace aa := kb aa hb;replace HB := lb HB hb
  (try clear hb)
  (try clear hb2)
  (try clear hk)
  (try clear hi)
  refine hK.out _ _ ⟨ce aa 0, ce aa 1, ce aa 2, ce aa 3, ce aa 4, ce aa 5⟩ (fun hHeld => ?_)
  clear hK K
  refine nm ?_
  refine on1 11 (fun K hK => ?_)
  refine bx 3 #[.int .u64 0, .int .u64 0, .int .u64 0, .int .u64 0] 75 ?_
  intro av hg bk hbox hb
  have ad := am (hbox);have az := gq hg HB;have aA := gq hg HB;replace HB := lb HB hb;obtain ⟨ac, ae, -, -⟩ := pm hg aa;replace aa := kb aa hb;clear hb hbox hg
  refine hK.out _ _ ⟨ce aa 0, ce aa 1, ce aa 2, ce aa 3, ce aa 4, ce aa 5⟩ (fun hHeld => ?_)
  clear hK K
  refine nm ?_
  exact nj (hCont (av) _ ⟨hHeld, (pk aa.out), (pk ad.out), az.out, aA.out, ac.out, ae.out, (pb HB)⟩)
 skip
 refine bx 3 #[.int .u64 0, .int .u64 0, .int .u64 0, .int .u64 0] 75 ?_
 intro av hg bj hbox hb
 have ad := am (hbox);have az := gq hg HB;have aA := gq hg HB;replace HB := lb HB hb;obtain ⟨ac, ae, -, -⟩ := pm hg aa;replace aa := kb aa hb;clear hb hbox hg
 refine hK.out _ _ ⟨ce aa 0, ce aa 1, ce aa 2, ce aa 3, ce aa 4, ce aa 5⟩ (fun hHeld => ?_)
 clear hK K
 refine nm ?_
 refine on1 10 (fun K hK => ?_)
 refine gs Try.func55 #[.agg #[.int .u64 ah, .int .u64 ai, .int .u64 aj, .int .u64 ak], .int .u64 (Go.bits .or .u64 au (IntKind.u64.wrap ((IntKind.u64.wrap (ag)) * 72057594037927936)))] ?_
 with_reducible refine (sip_take.calls ah ai aj ak (Go.bits .or .u64 au (IntKind.u64.wrap ((IntKind.u64.wrap (ag)) * 72057594037927936))) aw ay aC aD _ A5.out).mono ?_
 rintro e bk ⟨rfl, hb⟩
 refine ⟨_, rfl, ?_⟩
 replace aa := kb aa hb;replace ad := kb ad hb;replace HB := lb HB hb
 (try clear hb)
 (try clear hb2)
 (try clear hk)
 (try clear hi)
 refine hK.out _ _ ⟨ce aa 0, ce aa 1, ce aa 2, ce aa 3, ce aa 4, ce aa 5⟩ (fun hHeld => ?_)
 clear hK K
 refine nm ?_
 exact nj (hCont (av) _ ⟨hHeld, (pk aa.out), (pk ad.out), az.out, aA.out, ac.out, ae.out, (pb HB)⟩)
def sip_Write.l0 : Nat → Int → Int → Int → Int → ByteArray → Int → Option (Int × Int × Int × Int × ByteArray × Int)
 | 0, _, _, _, _, _, _ => none
 | k + 1, x147000, x147001, x147002, x147003, x147004, x147005 => if (x147004.size : Int) ≥ 8 then (if 0 ≤ 8 then (if 8 ≤ (x147004.size : Int) then ((sip_number.f k (x147004.extract 0 8)).bind fun t149 => ((sip_take.f x147000 x147001 x147002 x147003 t149).bind fun bt150 => (sip_Write.l0 k bt150.1 bt150.2.1 bt150.2.2.1 bt150.2.2.2 (x147004.extract 8 x147004.size) x147005))) else (none)) else (none)) else (some (x147000, x147001, x147002, x147003, x147004, x147005))
def sip_Write.f (k : Nat) (a0_0 : Int) (a0_1 : Int) (a0_2 : Int) (a0_3 : Int) (a0_4 : ByteArray) (a0_5 : Int) (a1 : ByteArray) : Option (Int × Int × Int × Int × ByteArray × Int) := (sip_right.f a0_0 a0_1 a0_2 a0_3 a0_4 a0_5).bind fun t148 => (if t148 = true then (if a0_4.size + a1.size ≤ 9223372036854775807 then (sip_Write.l0 k a0_0 a0_1 a0_2 a0_3 (a0_4 ++ a1) (wrap64 (a0_5 + (a1.size : Int)))) else (none)) else (some (a0_0, a0_1, a0_2, a0_3, a0_4, a0_5)))
theorem sip_Write.mono_l : ∀ k, (∀ y0 y1 y2 y3 y4 y5, LeO (sip_Write.l0 k y0 y1 y2 y3 y4 y5) (sip_Write.l0 (k + 1) y0 y1 y2 y3 y4 y5))
 | 0 => fun _ _ _ _ _ _ r h => by simp [sip_Write.l0] at h
 | k + 1 => by
  have ih0 := sip_Write.mono_l k
  ·intro y0 y1 y2 y3 y4 y5
   unfold sip_Write.l0
   repeat' first
   | (with_reducible exact ih0 _ _ _ _ _ _)
   | (with_reducible exact sip_number.mono _ _)
   | (with_reducible exact LeO.refl _)
   | (with_reducible exact LeO.none _)
   | (with_reducible refine LeO.ite ?_ ?_)
   | (with_reducible refine LeO.bind ?_ (fun _ => ?_))
theorem sip_Write.mono : ∀ a0 a1 a2 a3 a4 a5 a6 k, LeO (sip_Write.f k a0 a1 a2 a3 a4 a5 a6) (sip_Write.f (k + 1) a0 a1 a2 a3 a4 a5 a6) := by
 intro a0 a1 a2 a3 a4 a5 a6 k
 have ih0 := sip_Write.mono_l k
 unfold sip_Write.f
 repeat' first
   | (with_reducible exact ih0 _ _ _ _ _ _)
   | (with_reducible exact sip_number.mono _ _)
   | (with_reducible exact LeO.refl _)
   | (with_reducible exact LeO.none _)
   | (with_reducible refine LeO.ite ?_ ?_)
   | (with_reducible refine LeO.bind ?_ (fun _ => ?_))
def sip_Write.T6 : Bool × List (List Nat × List Nat) := (true, [([], []), ([0], [0]), ([], []), ([2], [2]), ([3], [3]), ([4], [4]), ([1, 5, 5], [1, 5]), ([0, 1, 2, 3, 4, 5, 6], []), ([7, 6, 6, 0, 1, 2, 3, 4, 5, 6], [6, 7])])
def sip_Write.B6 : List Nat := [0, 1, 0, 4, 12, 28, 63, 127, 255]
theorem sip_Write.tab6 : rtab .any (opsOf Try.f41 6) = sip_Write.T6 := by kernel_rfl
theorem sip_Write.bits6 : waitsOk sip_Write.T6.2 sip_Write.B6 = true := by kernel_rfl
set_option maxHeartbeats 8000000 in
set_option maxRecDepth 100000 in
theorem sip_Write.calls (k : Nat) (ak : Int) (ao : Int) (ap : Int) (aq : Int) (aj : ByteArray) (ai : Int) (a1 : ByteArray) (r1 : Int) (r2 : Int) (r3 : Int) (r4 : Int) (r5 : ByteArray) (r6 : Int) (w : World) (h : sip_Write.f k ak ao ap aq aj ai a1 = some (r1, r2, r3, r4, r5, r6)) :
  Calls Try.prog 41 #[.agg #[.int .u64 ak, .int .u64 ao, .int .u64 ap, .int .u64 aq, .string aj, .int .i64 ai], .string a1] w fun e w' => e = .returned (.agg #[.int .u64 r1, .int .u64 r2, .int .u64 r3, .int .u64 r4, .string r5, .int .i64 r6]) ∧ Below w.heap.size w w' := by
 have hu85 := Try.underlying85;have hu75 := Try.underlying75;have HB := am (Below.refl w.heap.size w);have H : ((sip_right.f ak ao ap aq aj ai).bind fun aC => (if aC = true then (if aj.size + a1.size ≤ 9223372036854775807 then (sip_Write.l0 k ak ao ap aq (aj ++ a1) (wrap64 (ai + (a1.size : Int)))) else (none)) else (some (ak, ao, ap, aq, aj, ai)))) = some (r1, r2, r3, r4, r5, r6) := h;clear h;replace H := Option.bind_eq_some_iff.mp H;obtain ⟨aC, bc, H⟩ := H
 try dsimp only at H
 have A3 := am bc;clear bc
 by_cases c4 : aC = true
 rotate_left
 ·replace c4 := Bool.eq_false_iff.mpr c4;subst c4
  have H1 : (some (ak, ao, ap, aq, aj, ai)) = some (r1, r2, r3, r4, r5, r6) := by rw [if_neg (show ¬ (false = true) by decide)] at H; exact H
  clear H;have H := H1;clear H1
  simp only [Option.some.injEq, Prod.mk.injEq] at H
  obtain ⟨rfl, rfl, rfl, rfl, rfl, rfl⟩ := H
  go_enter Try.func41, Try.ntmps41
  go_wp2_with (first | ((with_reducible refine gate_dst (N := 2) rfl ?_); refine be 2 #[.int .u64 ak, .int .u64 ao, .int .u64 ap, .int .u64 aq, .string aj, .int .i64 ai] 85 ?_; intro au hg dh hbox hb; have aa := am (hbox); have a7 := gq hg HB; have a8 := gq hg HB; replace HB := lb HB hb; clear hb hbox hg) | ((with_reducible refine gate_dst (N := 4) rfl ?_); refine be 4 #[.int .u64 0, .int .u64 0, .int .u64 0, .int .u64 0, .string (⟨#[]⟩ : ByteArray), .int .i64 0] 85 ?_; intro aw hg di hbox hb; have an := am (hbox); have a9 := gq hg HB; have a_ := gq hg HB; replace HB := lb HB hb; obtain ⟨ar, ad, cP, cQ⟩ := pm hg aa; replace aa := kb aa hb; clear hb hbox hg; obtain ⟨bi, bj, bk, bl, bm, bn, bo, bp, bq, br, bs, bu⟩ := g6 aa) | ((with_reducible refine gate_callee (f := 54) rfl ?_); refine gl (some 6) Try.func54 #[.agg #[.int .u64 ak, .int .u64 ao, .int .u64 ap, .int .u64 aq, .string aj, .int .i64 ai]] ?_; (with_reducible refine (sip_right.calls ak ao ap aq aj ai false _ A3.out).mono ?_); rintro e dj ⟨rfl, hb⟩; refine ⟨_, rfl, ?_⟩; replace aa := kb aa hb; replace an := kb an hb; replace HB := lb HB hb; (try clear hb); (try clear hb2); (try clear hk); (try clear hi); obtain ⟨bv, bw, bz, bA, bB, bC, bD, bE, bF, bG, bH, bI⟩ := g6 aa; obtain ⟨bJ, bK, bL, bM, bN, bO, bP, bQ, bR, bS, bT, bU⟩ := g6 an))
  refine bodyPost_ret (results_cell_row rfl _ _ aw 85 #[.int .u64 ak, .int .u64 ao, .int .u64 ap, .int .u64 aq, .string aj, .int .i64 ai] (0, 0) _ rfl (by refine pk ?_; refine blk_put (cs := #[.int .u64 ak, .int .u64 ao, .int .u64 ap, .int .u64 aq, .string aj, .int .i64 0]) ?_ 5 _ rfl; refine pk ?_; refine blk_put (cs := #[.int .u64 ak, .int .u64 ao, .int .u64 ap, .int .u64 aq, .string (⟨#[]⟩ : ByteArray), .int .i64 0]) ?_ 4 _ rfl; refine pk ?_; refine blk_put (cs := #[.int .u64 ak, .int .u64 ao, .int .u64 ap, .int .u64 0, .string (⟨#[]⟩ : ByteArray), .int .i64 0]) ?_ 3 _ rfl; refine pk ?_; refine blk_put (cs := #[.int .u64 ak, .int .u64 ao, .int .u64 0, .int .u64 0, .string (⟨#[]⟩ : ByteArray), .int .i64 0]) ?_ 2 _ rfl; refine pk ?_; refine blk_put (cs := #[.int .u64 ak, .int .u64 0, .int .u64 0, .int .u64 0, .string (⟨#[]⟩ : ByteArray), .int .i64 0]) ?_ 1 _ rfl; refine pk ?_; refine blk_put (cs := #[.int .u64 0, .int .u64 0, .int .u64 0, .int .u64 0, .string (⟨#[]⟩ : ByteArray), .int .i64 0]) ?_ 0 _ rfl; refine pk ?_; exact an.out) Try.underlying85 rfl (by kernel_rfl)) rfl ?_
  exact ⟨by first | rfl | (simp [errW_none, errW_some] <;> rfl) | (simp [*, errW_none, errW_some] <;> rfl), pb HB⟩
 subst c4
 have H1 : (if aj.size + a1.size ≤ 9223372036854775807 then (sip_Write.l0 k ak ao ap aq (aj ++ a1) (wrap64 (ai + (a1.size : Int)))) else (none)) = some (r1, r2, r3, r4, r5, r6) := by rw [if_pos rfl] at H; exact H
 clear H;have H := H1;clear H1
 by_cases c5 : aj.size + a1.size ≤ 9223372036854775807
 rotate_left
 ·rw [if_neg c5] at H;exact absurd H (by simp)
 rw [if_pos c5] at H;have bd := eq_true c5;have bg : decide (aj.size + a1.size ≤ 9223372036854775807) = true := decide_eq_true c5
 try have bh : (9223372036854775807 < aj.size + a1.size) = False := eq_false (Nat.not_lt.2 c5)
 have H' := am H;clear H
 go_enter Try.func41, Try.ntmps41
 go_wp2_with (first | ((with_reducible refine gate_dst (N := 2) rfl ?_); refine be 2 #[.int .u64 ak, .int .u64 ao, .int .u64 ap, .int .u64 aq, .string aj, .int .i64 ai] 85 ?_; intro au hg w6 hbox hb; have aa := am (hbox); have a7 := gq hg HB; have a8 := gq hg HB; replace HB := lb HB hb; clear hb hbox hg) | ((with_reducible refine gate_dst (N := 4) rfl ?_); refine be 4 #[.int .u64 0, .int .u64 0, .int .u64 0, .int .u64 0, .string (⟨#[]⟩ : ByteArray), .int .i64 0] 85 ?_; intro aw hg w7 hbox hb; have an := am (hbox); have a9 := gq hg HB; have a_ := gq hg HB; replace HB := lb HB hb; obtain ⟨ar, ad, db, dc⟩ := pm hg aa; replace aa := kb aa hb; clear hb hbox hg; obtain ⟨aS, aT, aU, aV, aW, aX, aY, aZ, a0, a2, a3, a4⟩ := g6 aa) | ((with_reducible refine gate_callee (f := 54) rfl ?_); refine gl (some 6) Try.func54 #[.agg #[.int .u64 ak, .int .u64 ao, .int .u64 ap, .int .u64 aq, .string aj, .int .i64 ai]] ?_; (with_reducible refine (sip_right.calls ak ao ap aq aj ai true _ A3.out).mono ?_); rintro e dk ⟨rfl, hb⟩; refine ⟨_, rfl, ?_⟩; replace aa := kb aa hb; replace an := kb an hb; replace HB := lb HB hb; (try clear hb); (try clear hb2); (try clear hk); (try clear hi); obtain ⟨aG, aH, aI, aJ, aK, aL, aM, aN, aO, aP, aQ, aR⟩ := g6 aa))
 go_loopg [] k (fun kq w' => ∃ (ae : Int) (af : Int) (ag : Int) (ah : Int) (ac : ByteArray), Aside0 (sip_Write.l0 kq ae af ag ah ac (wrap64 (ai + (a1.size : Int))) = some (r1, r2, r3, r4, r5, r6)) ∧ Aside0 (kq ≤ k) ∧ Aside0 (w'.heap[au]? = some (.cells #[.int .u64 ae, .int .u64 af, .int .u64 ag, .int .u64 ah, .string ac, .int .i64 (wrap64 (ai + (a1.size : Int)))] 85 (0, 0))) ∧ Aside0 (w'.heap[aw]? = some (.cells #[.int .u64 0, .int .u64 0, .int .u64 0, .int .u64 0, .string (⟨#[]⟩ : ByteArray), .int .i64 0] 85 (0, 0))) ∧ Aside0 (Below w.heap.size w w'))
 case atStart => exact ⟨(ak), (ao), (ap), (aq), (aj ++ a1), H', ⟨Nat.le_refl _⟩, ⟨by refine pk ?_; refine blk_put (cs := #[.int .u64 ak, .int .u64 ao, .int .u64 ap, .int .u64 aq, .string aj, .int .i64 (wrap64 (ai + (a1.size : Int)))]) ?_ 4 _ rfl; refine pk ?_; refine blk_put (cs := #[.int .u64 ak, .int .u64 ao, .int .u64 ap, .int .u64 aq, .string aj, .int .i64 ai]) ?_ 5 _ rfl; refine pk ?_; exact aa.out⟩, ⟨by refine pk ?_; refine blk_far ?_ ad.out _; refine pk ?_; refine blk_far ?_ ad.out _; refine pk ?_; exact an.out⟩, ⟨pb HB⟩⟩
 case round =>
  clear H';(try clear p2);(try clear c4);(try clear c5);(try clear bd);(try clear bg);(try clear bh);(try clear p6);(try clear c8);(try clear aG aH aI aJ aK aL);(try clear aS aT aU aV aW aX);(try clear aM aN aO aP aQ aR);(try clear aY aZ a0 a2 a3 a4);obtain ⟨ae, af, ag, ah, ac, HA, HK1, aa, an, HB⟩ := hrel
  cases gk with
  | zero => exact absurd HA.out (by simp [sip_Write.l0])
  | succ k1 =>
   have H := HA.out;clear HA
   simp only [sip_Write.l0] at H
   by_cases ay : (ac.size : Int) ≥ 8
   ·rw [if_pos ay] at H;have ba : decide (8 ≤ (ac.size : Int)) = true := decide_eq_true ay;have bb : decide (8 ≤ ac.size) = true := decide_eq_true (by omega);clear ay
    by_cases aA : 0 ≤ 8
    ·rw [if_pos aA] at H;have cR := eq_true aA;have cS : decide (0 ≤ 8) = true := decide_eq_true aA;clear aA
     by_cases aB : 8 ≤ (ac.size : Int)
     ·rw [if_pos aB] at H;have cT := eq_true aB;have cU : decide (8 ≤ (ac.size : Int)) = true := decide_eq_true aB;clear aB;replace H := Option.bind_eq_some_iff.mp H;obtain ⟨aD, a5, H⟩ := H
      try dsimp only at H
      have cN := am a5;clear a5;replace H := Option.bind_eq_some_iff.mp H;obtain ⟨⟨av, ax, az, aE⟩, a6, H⟩ := H
      try dsimp only at H
      have cO := am a6;clear a6;have cV := eq_true (of_decide_eq_true (by first | (with_reducible assumption) | assumption) : 8 ≤ (ac.size : Int));have H' := am H;clear H;have cW := ar.out;have cX := ad.out;obtain ⟨bV, bW, bX, bY, bZ, b0, b1, b2, b3, b4, b5, b6⟩ := g6 aa
      try go_wp2
      replace aa := am (blk_drew aa.out);replace an := am (blk_drew an.out);replace HB := am (below_drew1 HB.out)
      refine start_ (n := 9) (S := fun w' => w'.cell? ⟨au, 0, none⟩ = some (.int .u64 ae) ∧ w'.cell? ⟨au, 1, none⟩ = some (.int .u64 af) ∧ w'.cell? ⟨au, 2, none⟩ = some (.int .u64 ag) ∧ w'.cell? ⟨au, 3, none⟩ = some (.int .u64 ah) ∧ w'.cell? ⟨au, 4, none⟩ = some (.string ac) ∧ w'.cell? ⟨au, 5, none⟩ = some (.int .i64 (wrap64 (ai + (a1.size : Int))))) (ds := [8]) #[false, false, false, false, false, false, false, false, false] (by kernel_rfl) rfl rfl ⟨ce aa 0, ce aa 1, ce aa 2, ce aa 3, ce aa 4, ce aa 5⟩ (fun hHeld => ?_); refine with_tabW sip_Write.tab6 sip_Write.bits6 (fun HT_ HW_ => ?_)
      generalize wr.drew = dl at aa an HB hHeld ⊢
      refine pu 0 ?_
      refine pu 2 ?_
      refine ta 1 hHeld ?_
      refine ta 3 hHeld ?_
      refine pu 4 ?_
      refine on1 5 (fun K hK => ?_)
      refine gs Try.func56 #[.string (ac.extract 0 8)] ?_
      with_reducible refine (sip_number.calls k1 (ac.extract 0 8) aD _ cN.out).mono ?_
      rintro e w' ⟨rfl, ⟨nd, rfl⟩⟩
      refine ⟨_, rfl, ?_⟩
      refine hK.out _ _ ⟨ce aa 0, ce aa 1, ce aa 2, ce aa 3, ce aa 4, ce aa 5⟩ (fun hHeld => ?_)
      clear hK K
      refine nm ?_
      refine on1 6 (fun K hK => ?_)
      refine gs Try.func55 #[.agg #[.int .u64 ae, .int .u64 af, .int .u64 ag, .int .u64 ah], .int .u64 aD] ?_
      with_reducible refine (sip_take.calls ae af ag ah aD av ax az aE _ cO.out).mono ?_
      rintro e aF ⟨rfl, hb⟩
      refine ⟨_, rfl, ?_⟩
      replace aa := kb aa hb;replace an := kb an hb;replace HB := lb HB hb
      (try clear hb)
      (try clear hb2)
      (try clear hk)
      (try clear hi)
      refine hK.out _ _ ⟨ce aa 0, ce aa 1, ce aa 2, ce aa 3, ce aa 4, ce aa 5⟩ (fun hHeld => ?_)
      clear hK K
      refine nm ?_
      refine pu 7 ?_
      refine last_ (i := 8) (N := none) #[true, true, true, true, true, true, true, true, true] rfl rfl (one_of HT_.out (by kernel_rfl)) (by decide) (fun K hK => ?_)
      have dd : aF.cell? ⟨au, 0, none⟩ = some (.int .u64 ae) := ce aa 0;have cY := blk_frozen aa.out 0;have b7 := ad.out;have hms22_1 := ar.out;have de : aF.cell? ⟨au, 1, none⟩ = some (.int .u64 af) := ce aa 1;have cZ := blk_frozen aa.out 1;have b8 := ad.out;have hms23_1 := ar.out;have df : aF.cell? ⟨au, 2, none⟩ = some (.int .u64 ag) := ce aa 2;have c0 := blk_frozen aa.out 2;have b9 := ad.out;have hms24_1 := ar.out;have dg : aF.cell? ⟨au, 3, none⟩ = some (.int .u64 ah) := ce aa 3;have c1 := blk_frozen aa.out 3;have b_ := ad.out;have hms25_1 := ar.out
      refine skip_ (w1 := ?_) (by rfl) rfl ?_ ?_
      rotate_left
      ·go_simp
       rfl
      refine hK.out _ _ ?_
      clear hK K
      refine done_ (done_of HT_.out (by kernel_rfl)) ?_
      obtain ⟨ca, cb, cc, cd, cf, cg, ch, ci, cj, ck, cl, cm⟩ := g6 aa
      try go_wp2
      go_roundg k1
      case measure => have := HK1.out; omega
      case rel => exact ⟨(av), (ax), (az), (aE), (ac.extract 8 ac.size), H', ⟨by have := HK1.out; omega⟩, ⟨by refine pk ?_; refine blk_put (cs := #[.int .u64 av, .int .u64 ax, .int .u64 az, .int .u64 aE, .string ac, .int .i64 (wrap64 (ai + (a1.size : Int)))]) ?_ 4 _ rfl; refine pk ?_; refine blk_put (cs := #[.int .u64 av, .int .u64 ax, .int .u64 az, .int .u64 ah, .string ac, .int .i64 (wrap64 (ai + (a1.size : Int)))]) ?_ 3 _ rfl; refine pk ?_; refine blk_put (cs := #[.int .u64 av, .int .u64 ax, .int .u64 ag, .int .u64 ah, .string ac, .int .i64 (wrap64 (ai + (a1.size : Int)))]) ?_ 2 _ rfl; refine pk ?_; refine blk_put (cs := #[.int .u64 av, .int .u64 af, .int .u64 ag, .int .u64 ah, .string ac, .int .i64 (wrap64 (ai + (a1.size : Int)))]) ?_ 1 _ rfl; refine pk ?_; refine blk_put (cs := #[.int .u64 ae, .int .u64 af, .int .u64 ag, .int .u64 ah, .string ac, .int .i64 (wrap64 (ai + (a1.size : Int)))]) ?_ 0 _ rfl; refine pk ?_; exact aa.out⟩, ⟨by refine pk ?_; refine blk_far ?_ ad.out _; refine pk ?_; refine blk_far ?_ ad.out _; refine pk ?_; refine blk_far ?_ ad.out _; refine pk ?_; refine blk_far ?_ ad.out _; refine pk ?_; refine blk_far ?_ ad.out _; refine pk ?_; exact an.out⟩, ⟨pb HB⟩⟩
     ·rw [if_neg aB] at H;exact absurd H (by simp)
    ·rw [if_neg aA] at H;exact absurd H (by simp)
   ·rw [if_neg ay] at H;have ba : decide (8 ≤ (ac.size : Int)) = false := decide_eq_false ay;have bb : decide (8 ≤ ac.size) = false := decide_eq_false (by omega);clear ay
    simp only [Option.some.injEq, Prod.mk.injEq] at H
    obtain ⟨rfl, rfl, rfl, rfl, rfl, rfl⟩ := H;have c_ := ar.out;have da := ad.out;obtain ⟨cn, cp, cq, cr, ct, cu, cv, cw, cx, cy, cz, cA⟩ := g6 aa;obtain ⟨cB, cC, cD, cE, cF, cG, cH, cI, cJ, cK, cL, cM⟩ := g6 an
    go_wp2
    refine bodyPost_ret (results_cell_row rfl _ _ aw 85 #[.int .u64 ae, .int .u64 af, .int .u64 ag, .int .u64 ah, .string ac, .int .i64 (wrap64 (ai + (a1.size : Int)))] (0, 0) _ rfl (by refine pk ?_; refine blk_put (cs := #[.int .u64 ae, .int .u64 af, .int .u64 ag, .int .u64 ah, .string ac, .int .i64 0]) ?_ 5 _ rfl; refine pk ?_; refine blk_put (cs := #[.int .u64 ae, .int .u64 af, .int .u64 ag, .int .u64 ah, .string (⟨#[]⟩ : ByteArray), .int .i64 0]) ?_ 4 _ rfl; refine pk ?_; refine blk_put (cs := #[.int .u64 ae, .int .u64 af, .int .u64 ag, .int .u64 0, .string (⟨#[]⟩ : ByteArray), .int .i64 0]) ?_ 3 _ rfl; refine pk ?_; refine blk_put (cs := #[.int .u64 ae, .int .u64 af, .int .u64 0, .int .u64 0, .string (⟨#[]⟩ : ByteArray), .int .i64 0]) ?_ 2 _ rfl; refine pk ?_; refine blk_put (cs := #[.int .u64 ae, .int .u64 0, .int .u64 0, .int .u64 0, .string (⟨#[]⟩ : ByteArray), .int .i64 0]) ?_ 1 _ rfl; refine pk ?_; refine blk_put (cs := #[.int .u64 0, .int .u64 0, .int .u64 0, .int .u64 0, .string (⟨#[]⟩ : ByteArray), .int .i64 0]) ?_ 0 _ rfl; refine pk ?_; exact an.out) Try.underlying85 rfl (by kernel_rfl)) rfl ?_
    exact ⟨by first | rfl | (simp [errW_none, errW_some] <;> rfl) | (simp [*, errW_none, errW_some] <;> rfl), pb HB⟩
def sip_New.f (a0_0 : Int) (a0_1 : Int) : Option (Int × Int × Int × Int × ByteArray × Int) := some (Go.bits .xor .u64 a0_0 8317987319222330741, Go.bits .xor .u64 a0_1 7237128888997146477, Go.bits .xor .u64 a0_0 7816392313619706465, Go.bits .xor .u64 a0_1 8387220255154660723, (⟨#[]⟩ : ByteArray), 0)
set_option maxHeartbeats 8000000 in
set_option maxRecDepth 100000 in
theorem sip_New.calls (aa : Int) (ac : Int) (r1 : Int) (r2 : Int) (r3 : Int) (r4 : Int) (r5 : ByteArray) (r6 : Int) (w : World) (h : sip_New.f aa ac = some (r1, r2, r3, r4, r5, r6)) :
  Calls Try.prog 42 #[.agg #[.int .u64 aa, .int .u64 ac]] w fun e w' => e = .returned (.agg #[.int .u64 r1, .int .u64 r2, .int .u64 r3, .int .u64 r4, .string r5, .int .i64 r6]) ∧ Below w.heap.size w w' := by
 have hu24 := Try.underlying24;have hu85 := Try.underlying85;have hu75 := Try.underlying75;have HB := am (Below.refl w.heap.size w);have H : (some (Go.bits .xor .u64 aa 8317987319222330741, Go.bits .xor .u64 ac 7237128888997146477, Go.bits .xor .u64 aa 7816392313619706465, Go.bits .xor .u64 ac 8387220255154660723, (⟨#[]⟩ : ByteArray), 0)) = some (r1, r2, r3, r4, r5, r6) := h;clear h
 simp only [Option.some.injEq, Prod.mk.injEq] at H
 obtain ⟨rfl, rfl, rfl, rfl, rfl, rfl⟩ := H
 go_enter Try.func42, Try.ntmps42
 go_wp2_with (first | ((with_reducible refine gate_dst (N := 1) rfl ?_); refine be 1 #[.int .u64 aa, .int .u64 ac] 24 ?_; intro aC hg w2 hbox hb; have ad := am (hbox); have aD := gq hg HB; have aE := gq hg HB; replace HB := lb HB hb; clear hb hbox hg) | ((with_reducible refine gate_dst (N := 2) rfl ?_); refine be 2 #[.int .u64 0, .int .u64 0, .int .u64 0, .int .u64 0, .string (⟨#[]⟩ : ByteArray), .int .i64 0] 85 ?_; intro af hg w3 hbox hb; have ae := am (hbox); have aF := gq hg HB; have aG := gq hg HB; replace HB := lb HB hb; obtain ⟨ag, ah, aH, aI⟩ := pm hg ad; replace ad := kb ad hb; clear hb hbox hg; obtain ⟨ai, aj, ak, an⟩ := g2 ad; obtain ⟨ao, ap, aq, ar, au, av, aw, ax, ay, az, aA, aB⟩ := g6 ae))
 refine bodyPost_ret (results_cell_row rfl _ _ af 85 #[.int .u64 (Go.bits .xor .u64 aa 8317987319222330741), .int .u64 (Go.bits .xor .u64 ac 7237128888997146477), .int .u64 (Go.bits .xor .u64 aa 7816392313619706465), .int .u64 (Go.bits .xor .u64 ac 8387220255154660723), .string (⟨#[]⟩ : ByteArray), .int .i64 0] (0, 0) _ rfl (by refine pk ?_; refine blk_put (cs := #[.int .u64 (Go.bits .xor .u64 aa 8317987319222330741), .int .u64 (Go.bits .xor .u64 ac 7237128888997146477), .int .u64 (Go.bits .xor .u64 aa 7816392313619706465), .int .u64 (Go.bits .xor .u64 ac 8387220255154660723), .string (⟨#[]⟩ : ByteArray), .int .i64 0]) ?_ 5 _ rfl; refine pk ?_; refine blk_put (cs := #[.int .u64 (Go.bits .xor .u64 aa 8317987319222330741), .int .u64 (Go.bits .xor .u64 ac 7237128888997146477), .int .u64 (Go.bits .xor .u64 aa 7816392313619706465), .int .u64 (Go.bits .xor .u64 ac 8387220255154660723), .string (⟨#[]⟩ : ByteArray), .int .i64 0]) ?_ 4 _ rfl; refine pk ?_; refine blk_put (cs := #[.int .u64 (Go.bits .xor .u64 aa 8317987319222330741), .int .u64 (Go.bits .xor .u64 ac 7237128888997146477), .int .u64 (Go.bits .xor .u64 aa 7816392313619706465), .int .u64 0, .string (⟨#[]⟩ : ByteArray), .int .i64 0]) ?_ 3 _ rfl; refine pk ?_; refine blk_put (cs := #[.int .u64 (Go.bits .xor .u64 aa 8317987319222330741), .int .u64 (Go.bits .xor .u64 ac 7237128888997146477), .int .u64 0, .int .u64 0, .string (⟨#[]⟩ : ByteArray), .int .i64 0]) ?_ 2 _ rfl; refine pk ?_; refine blk_put (cs := #[.int .u64 (Go.bits .xor .u64 aa 8317987319222330741), .int .u64 0, .int .u64 0, .int .u64 0, .string (⟨#[]⟩ : ByteArray), .int .i64 0]) ?_ 1 _ rfl; refine pk ?_; refine blk_put (cs := #[.int .u64 0, .int .u64 0, .int .u64 0, .int .u64 0, .string (⟨#[]⟩ : ByteArray), .int .i64 0]) ?_ 0 _ rfl; refine pk ?_; exact ae.out) Try.underlying85 rfl (by kernel_rfl)) rfl ?_
 exact ⟨by first | rfl | (simp [errW_none, errW_some] <;> rfl) | (simp [*, errW_none, errW_some] <;> rfl), pb HB⟩

end Go.Proofs.Ytmfffbafldbihaa.H
