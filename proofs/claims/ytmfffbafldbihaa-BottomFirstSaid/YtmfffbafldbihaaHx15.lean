import Derived.Test.YtmfffbafldbihaaHx0
import Derived.Test.YtmfffbafldbihaaHx14
namespace Go.Proofs.Ytmfffbafldbihaa.H
open Go.RowKit Go.Proofs.YtmfffbafldbihaaW.PrintWords Go.Proofs.YtmfffbafldbihaaW.PrintLast Go.Proofs.YtmfffbafldbihaaW.PrintMore Go.Proofs.YtmfffbafldbihaaW.Sq
attribute [local go_sem] max2_int min2_int max_two min_two max_three min_three max_four min_four
set_option linter.unusedVariables false
set_option linter.unusedSimpArgs false

def r05_turns.l0 : Nat → Int → Int → Int → Int → Int → Int → Option (Int × Int × Int × Int)
 | 0, _, _, _, _, _, _ => none
 | k + 1, x1, x5, x286000, x286001, x286002, x286003 => if x5 < x1 then ((r05_left.f x286001 13).bind fun t287 => ((r05_left.f (IntKind.u64.wrap (x286000 + x286001)) 32).bind fun t288 => ((r05_left.f x286003 16).bind fun t289 => ((r05_left.f (Go.bits .xor .u64 t289 (IntKind.u64.wrap (x286002 + x286003))) 21).bind fun t290 => ((r05_left.f (Go.bits .xor .u64 t287 (IntKind.u64.wrap (x286000 + x286001))) 17).bind fun t291 => ((r05_left.f (IntKind.u64.wrap ((IntKind.u64.wrap (x286002 + x286003)) + (Go.bits .xor .u64 t287 (IntKind.u64.wrap (x286000 + x286001))))) 32).bind fun t292 => (r05_turns.l0 k x1 (wrap64 (x5 + 1)) (IntKind.u64.wrap (t288 + (Go.bits .xor .u64 t289 (IntKind.u64.wrap (x286002 + x286003))))) (Go.bits .xor .u64 t291 (IntKind.u64.wrap ((IntKind.u64.wrap (x286002 + x286003)) + (Go.bits .xor .u64 t287 (IntKind.u64.wrap (x286000 + x286001)))))) t292 (Go.bits .xor .u64 t290 (IntKind.u64.wrap (t288 + (Go.bits .xor .u64 t289 (IntKind.u64.wrap (x286002 + x286003))))))))))))) else (some (x286000, x286001, x286002, x286003))
def r05_turns.f (k : Nat) (a0_0 : Int) (a0_1 : Int) (a0_2 : Int) (a0_3 : Int) (a1 : Int) : Option (Int × Int × Int × Int) := r05_turns.l0 k a1 0 a0_0 a0_1 a0_2 a0_3
theorem r05_turns.mono_l : ∀ k, (∀ y0 y1 y2 y3 y4 y5, LeO (r05_turns.l0 k y0 y1 y2 y3 y4 y5) (r05_turns.l0 (k + 1) y0 y1 y2 y3 y4 y5))
 | 0 => fun _ _ _ _ _ _ r h => by simp [r05_turns.l0] at h
 | k + 1 => by
  have ih0 := r05_turns.mono_l k
  ·intro y0 y1 y2 y3 y4 y5
   unfold r05_turns.l0
   repeat' first
   | (with_reducible exact ih0 _ _ _ _ _ _)
   | (with_reducible exact LeO.refl _)
   | (with_reducible exact LeO.none _)
   | (with_reducible refine LeO.ite ?_ ?_)
   | (with_reducible refine LeO.bind ?_ (fun _ => ?_))
theorem r05_turns.mono : ∀ a0 a1 a2 a3 a4 k, LeO (r05_turns.f k a0 a1 a2 a3 a4) (r05_turns.f (k + 1) a0 a1 a2 a3 a4) := by
 intro a0 a1 a2 a3 a4 k
 have ih0 := r05_turns.mono_l k
 unfold r05_turns.f
 repeat' first
   | (with_reducible exact ih0 _ _ _ _ _ _)
   | (with_reducible exact LeO.refl _)
   | (with_reducible exact LeO.none _)
   | (with_reducible refine LeO.ite ?_ ?_)
   | (with_reducible refine LeO.bind ?_ (fun _ => ?_))
def r05_turns.T5 : Bool × List (List Nat × List Nat) := (true, [([], []), ([0], [0]), ([1], [1]), ([], []), ([3], [3]), ([2, 4], [2, 4]), ([0, 1, 2, 3, 4, 5], []), ([6, 5, 2, 0, 1, 2, 3, 4, 5], [5, 6])])
def r05_turns.B5 : List Nat := [0, 1, 3, 0, 8, 31, 63, 127]
theorem r05_turns.tab5 : rtab .any (opsOf Try.f34 5) = r05_turns.T5 := by kernel_rfl
theorem r05_turns.bits5 : waitsOk r05_turns.T5.2 r05_turns.B5 = true := by kernel_rfl
def r05_turns.T8 : Bool × List (List Nat × List Nat) := (true, [([], []), ([0], [0]), ([1], [1]), ([], []), ([3], [3]), ([2, 4], [2, 4]), ([0, 1, 2, 3, 4, 5], []), ([6, 5, 2, 0, 1, 2, 3, 4, 5], [5, 6])])
def r05_turns.B8 : List Nat := [0, 1, 3, 0, 8, 31, 63, 127]
theorem r05_turns.tab8 : rtab .any (opsOf Try.f34 8) = r05_turns.T8 := by kernel_rfl
theorem r05_turns.bits8 : waitsOk r05_turns.T8.2 r05_turns.B8 = true := by kernel_rfl
def r05_turns.T10 : Bool × List (List Nat × List Nat) := (true, [([], []), ([0], [0]), ([1], [1]), ([], []), ([3], [3]), ([2, 4], [2, 4]), ([0, 1, 2, 3, 4, 5], []), ([6, 5, 2, 0, 1, 2, 3, 4, 5], [5, 6])])
def r05_turns.B10 : List Nat := [0, 1, 3, 0, 8, 31, 63, 127]
theorem r05_turns.tab10 : rtab .any (opsOf Try.f34 10) = r05_turns.T10 := by kernel_rfl
theorem r05_turns.bits10 : waitsOk r05_turns.T10.2 r05_turns.B10 = true := by kernel_rfl
def r05_turns.T12 : Bool × List (List Nat × List Nat) := (true, [([], []), ([0], [0]), ([1], [1]), ([], []), ([3], [3]), ([2, 4], [2, 4]), ([0, 1, 2, 3, 4, 5], []), ([6, 5, 2, 0, 1, 2, 3, 4, 5], [5, 6])])
def r05_turns.B12 : List Nat := [0, 1, 3, 0, 8, 31, 63, 127]
theorem r05_turns.tab12 : rtab .any (opsOf Try.f34 12) = r05_turns.T12 := by kernel_rfl
theorem r05_turns.bits12 : waitsOk r05_turns.T12.2 r05_turns.B12 = true := by kernel_rfl
set_option maxHeartbeats 8000000 in
set_option maxRecDepth 100000 in
theorem r05_turns.calls (k : Nat) (au : Int) (av : Int) (aw : Int) (ax : Int) (a1 : Int) (r1 : Int) (r2 : Int) (r3 : Int) (r4 : Int) (w : World) (h : r05_turns.f k au av aw ax a1 = some (r1, r2, r3, r4)) :
  Calls Try.prog 34 #[.agg #[.int .u64 au, .int .u64 av, .int .u64 aw, .int .u64 ax], .int .i64 a1] w fun e w' => e = .returned (.agg #[.int .u64 r1, .int .u64 r2, .int .u64 r3, .int .u64 r4]) ∧ Below w.heap.size w w' := by
 have hu75 := Try.underlying75;have HB := am (Below.refl w.heap.size w);have H : (r05_turns.l0 k a1 0 au av aw ax) = some (r1, r2, r3, r4) := h;clear h;have H' := am H;clear H
 go_enter Try.func34, Try.ntmps34
 go_wp2_with (first | ((with_reducible refine gate_dst (N := 2) rfl ?_); refine be 2 #[.int .u64 au, .int .u64 av, .int .u64 aw, .int .u64 ax] 75 ?_; intro ag hg w3 hbox hb; have af := am (hbox); have ca := gq hg HB; have cb := gq hg HB; replace HB := lb HB hb; clear hb hbox hg) | ((with_reducible refine gate_dst (N := 4) rfl ?_); refine be 4 #[.int .u64 0, .int .u64 0, .int .u64 0, .int .u64 0] 75 ?_; intro aq hg w4 hbox hb; have ah := am (hbox); have cc := gq hg HB; have cd := gq hg HB; replace HB := lb HB hb; obtain ⟨ao, ai, -, -⟩ := pm hg af; replace af := kb af hb; clear hb hbox hg))
 go_loopg [5] k (fun kq v5 w' => ∃ (ar : Int) (ae : Int) (ad : Int) (ac : Int) (aa : Int), v5 = .int .i64 ar ∧ Aside0 (r05_turns.l0 kq a1 ar ae ad ac aa = some (r1, r2, r3, r4)) ∧ Aside0 (kq ≤ k) ∧ Aside0 (w'.heap[ag]? = some (.cells #[.int .u64 ae, .int .u64 ad, .int .u64 ac, .int .u64 aa] 75 (0, 0))) ∧ Aside0 (w'.heap[aq]? = some (.cells #[.int .u64 0, .int .u64 0, .int .u64 0, .int .u64 0] 75 (0, 0))) ∧ Aside0 (Below w.heap.size w w'))
 case atStart => exact ⟨(0), (au), (av), (aw), (ax), (by first | rfl | (simp; done) | (simp [*]; done)), H', ⟨Nat.le_refl _⟩, ⟨pk af.out⟩, ⟨pk ah.out⟩, ⟨pb HB⟩⟩
 case round =>
  clear H';(try clear p2);(try clear c3);obtain ⟨ar, ae, ad, ac, aa, rfl, HA, HK1, af, ah, HB⟩ := hrel
  cases gk with
  | zero => exact absurd HA.out (by simp [r05_turns.l0])
  | succ k1 =>
   have H := HA.out;clear HA
   simp only [r05_turns.l0] at H
   by_cases c5 : ar < a1
   ·rw [if_pos c5] at H;have aJ : decide (ar < a1) = true := decide_eq_true c5;clear c5;replace H := Option.bind_eq_some_iff.mp H;obtain ⟨an, aF, H⟩ := H
    try dsimp only at H
    have A6 := am aF;clear aF;replace H := Option.bind_eq_some_iff.mp H;obtain ⟨ak, aG, H⟩ := H
    try dsimp only at H
    have A7 := am aG;clear aG;replace H := Option.bind_eq_some_iff.mp H;obtain ⟨aj, aH, H⟩ := H
    try dsimp only at H
    have A8 := am aH;clear aH;replace H := Option.bind_eq_some_iff.mp H;obtain ⟨ap, aI, H⟩ := H
    try dsimp only at H
    have A9 := am aI;clear aI;replace H := Option.bind_eq_some_iff.mp H;obtain ⟨ay, aC, H⟩ := H
    try dsimp only at H
    have b3 := am aC;clear aC;replace H := Option.bind_eq_some_iff.mp H;obtain ⟨aD, aE, H⟩ := H
    try dsimp only at H
    have b4 := am aE;clear aE;have H' := am H;clear H;have cf := ao.out;have cg := ai.out;obtain ⟨aK, aL, aM, aN, aO, aP, aQ, aR⟩ := g4 af
    try go_wp2
    have n0_ : Aside0 ((wr.setCell ⟨ag, 0, none⟩ (.int .u64 (IntKind.u64.wrap (ae + ad)))).heap[ag]? = some (.cells #[.int .u64 (IntKind.u64.wrap (ae + ad)), .int .u64 ad, .int .u64 ac, .int .u64 aa] 75 (0, 0))) := ⟨by refine pk ?_; refine blk_put (cs := #[.int .u64 ae, .int .u64 ad, .int .u64 ac, .int .u64 aa]) ?_ 0 _ rfl; refine pk ?_; exact af.out⟩;have n1_ : Aside0 ((wr.setCell ⟨ag, 0, none⟩ (.int .u64 (IntKind.u64.wrap (ae + ad)))).heap[aq]? = some (.cells #[.int .u64 0, .int .u64 0, .int .u64 0, .int .u64 0] 75 (0, 0))) := ⟨by refine pk ?_; refine blk_far ?_ ai.out _; refine pk ?_; exact ah.out⟩;have n2_ : Aside0 (Below w.heap.size w (wr.setCell ⟨ag, 0, none⟩ (.int .u64 (IntKind.u64.wrap (ae + ad))))) := ⟨pb HB⟩
    (try clear af)
    (try clear ah)
    (try clear HB)
    generalize (wr.setCell ⟨ag, 0, none⟩ (.int .u64 (IntKind.u64.wrap (ae + ad)))) = b5 at n0_ n1_ n2_ ⊢
    have af := n0_;have ah := n1_;have HB := n2_;clear n0_ n1_ n2_;replace af := am (blk_drew af.out);replace ah := am (blk_drew ah.out);replace HB := am (below_drew1 HB.out)
    refine start_ (n := 8) (S := fun w' => w'.cell? ⟨ag, 0, none⟩ = some (.int .u64 (IntKind.u64.wrap (ae + ad))) ∧ w'.cell? ⟨ag, 1, none⟩ = some (.int .u64 ad) ∧ w'.cell? ⟨ag, 2, none⟩ = some (.int .u64 ac) ∧ w'.cell? ⟨ag, 3, none⟩ = some (.int .u64 aa)) (ds := [7]) #[false, false, false, false, false, false, false, false] (by kernel_rfl) rfl rfl ⟨ce af 0, ce af 1, ce af 2, ce af 3⟩ (fun hHeld => ?_); refine with_tabW r05_turns.tab5 r05_turns.bits5 (fun HT_ HW_ => ?_)
    generalize b5.drew = ct at af ah HB hHeld ⊢
    refine pu 0 ?_
    refine pu 3 ?_
    refine ta 1 hHeld ?_
    refine ta 4 hHeld ?_
    refine on1 2 (fun K hK => ?_)
    refine gs Try.func48 #[.int .u64 ad, .int .u64 13] ?_
    with_reducible refine (r05_left.calls ad 13 an _ A6.out).mono ?_
    rintro e b6 ⟨rfl, hb⟩
    refine ⟨_, rfl, ?_⟩
    replace af := kb af hb;replace ah := kb ah hb;replace HB := lb HB hb
    (try clear hb)
    (try clear hb2)
    (try clear hk)
    (try clear hi)
    refine hK.out _ _ ⟨ce af 0, ce af 1, ce af 2, ce af 3⟩ (fun hHeld => ?_)
    clear hK K
    refine nm ?_
    refine pu 5 ?_
    refine pu 6 ?_
    refine last_ (i := 7) (N := none) #[true, true, true, true, true, true, true, true] rfl rfl (one_of HT_.out (by kernel_rfl)) (by decide) (fun K hK => ?_)
    have cn : b6.cell? ⟨ag, 1, none⟩ = some (.int .u64 ad) := ce af 1;have ch := blk_frozen af.out 1;have aS := ai.out;have hms17_1 := ao.out
    refine skip_ (w1 := ?_) (by rfl) rfl ?_ ?_
    rotate_left
    ·go_simp
     rfl
    refine hK.out _ _ ?_
    clear hK K
    refine done_ (done_of HT_.out (by kernel_rfl)) ?_
    obtain ⟨aT, aU, aV, aW, aX, aY, aZ, a0⟩ := g4 af
    try go_wp2_with (first | ((with_reducible refine gate_callee (f := 48) rfl ?_); refine gl (some 26) Try.func48 #[.int .u64 (IntKind.u64.wrap (ae + ad)), .int .u64 32] ?_; (with_reducible refine (r05_left.calls (IntKind.u64.wrap (ae + ad)) 32 ak _ A7.out).mono ?_); rintro e aB ⟨rfl, hb⟩; refine ⟨_, rfl, ?_⟩; replace af := am (blk_below (g := ag) (o := .cells #[.int .u64 (IntKind.u64.wrap (ae + ad)), .int .u64 (Go.bits .xor .u64 an (IntKind.u64.wrap (ae + ad))), .int .u64 ac, .int .u64 aa] 75 (0, 0)) (by refine pk ?_; refine blk_put (cs := #[.int .u64 (IntKind.u64.wrap (ae + ad)), .int .u64 ad, .int .u64 ac, .int .u64 aa]) ?_ 1 _ rfl; refine pk ?_; exact af.out) hb); replace ah := am (blk_below (g := aq) (o := .cells #[.int .u64 0, .int .u64 0, .int .u64 0, .int .u64 0] 75 (0, 0)) (by refine pk ?_; refine blk_far ?_ ai.out _; refine pk ?_; exact ah.out) hb); replace HB := lb HB hb; (try clear hb); (try clear hb2); (try clear hk); (try clear hi); obtain ⟨a2, a3, a4, a5, a6, a7, a8, a9⟩ := g4 af))
    have n0_ : Aside0 (((aB.setCell ⟨ag, 0, none⟩ (.int .u64 ak)).setCell ⟨ag, 2, none⟩ (.int .u64 (IntKind.u64.wrap (ac + aa)))).heap[ag]? = some (.cells #[.int .u64 ak, .int .u64 (Go.bits .xor .u64 an (IntKind.u64.wrap (ae + ad))), .int .u64 (IntKind.u64.wrap (ac + aa)), .int .u64 aa] 75 (0, 0))) := ⟨by refine pk ?_; refine blk_put (cs := #[.int .u64 ak, .int .u64 (Go.bits .xor .u64 an (IntKind.u64.wrap (ae + ad))), .int .u64 ac, .int .u64 aa]) ?_ 2 _ rfl; refine pk ?_; refine blk_put (cs := #[.int .u64 (IntKind.u64.wrap (ae + ad)), .int .u64 (Go.bits .xor .u64 an (IntKind.u64.wrap (ae + ad))), .int .u64 ac, .int .u64 aa]) ?_ 0 _ rfl; refine pk ?_; exact af.out⟩;have n1_ : Aside0 (((aB.setCell ⟨ag, 0, none⟩ (.int .u64 ak)).setCell ⟨ag, 2, none⟩ (.int .u64 (IntKind.u64.wrap (ac + aa)))).heap[aq]? = some (.cells #[.int .u64 0, .int .u64 0, .int .u64 0, .int .u64 0] 75 (0, 0))) := ⟨by refine pk ?_; refine blk_far ?_ ai.out _; refine pk ?_; refine blk_far ?_ ai.out _; refine pk ?_; exact ah.out⟩;have n2_ : Aside0 (Below w.heap.size w ((aB.setCell ⟨ag, 0, none⟩ (.int .u64 ak)).setCell ⟨ag, 2, none⟩ (.int .u64 (IntKind.u64.wrap (ac + aa))))) := ⟨pb HB⟩
    (try clear af)
    (try clear ah)
    (try clear HB)
    generalize ((aB.setCell ⟨ag, 0, none⟩ (.int .u64 ak)).setCell ⟨ag, 2, none⟩ (.int .u64 (IntKind.u64.wrap (ac + aa)))) = b7 at n0_ n1_ n2_ ⊢
    have af := n0_;have ah := n1_;have HB := n2_;clear n0_ n1_ n2_;replace af := am (blk_drew af.out);replace ah := am (blk_drew ah.out);replace HB := am (below_drew1 HB.out)
    refine start_ (n := 8) (S := fun w' => w'.cell? ⟨ag, 0, none⟩ = some (.int .u64 ak) ∧ w'.cell? ⟨ag, 1, none⟩ = some (.int .u64 (Go.bits .xor .u64 an (IntKind.u64.wrap (ae + ad)))) ∧ w'.cell? ⟨ag, 2, none⟩ = some (.int .u64 (IntKind.u64.wrap (ac + aa))) ∧ w'.cell? ⟨ag, 3, none⟩ = some (.int .u64 aa)) (ds := [7]) #[false, false, false, false, false, false, false, false] (by kernel_rfl) rfl rfl ⟨ce af 0, ce af 1, ce af 2, ce af 3⟩ (fun hHeld => ?_); refine with_tabW r05_turns.tab8 r05_turns.bits8 (fun HT_ HW_ => ?_)
    generalize b7.drew = cu at af ah HB hHeld ⊢
    refine pu 0 ?_
    refine pu 3 ?_
    refine ta 1 hHeld ?_
    refine ta 4 hHeld ?_
    refine on1 2 (fun K hK => ?_)
    refine gs Try.func48 #[.int .u64 aa, .int .u64 16] ?_
    with_reducible refine (r05_left.calls aa 16 aj _ A8.out).mono ?_
    rintro e az ⟨rfl, hb⟩
    refine ⟨_, rfl, ?_⟩
    replace af := kb af hb;replace ah := kb ah hb;replace HB := lb HB hb
    (try clear hb)
    (try clear hb2)
    (try clear hk)
    (try clear hi)
    refine hK.out _ _ ⟨ce af 0, ce af 1, ce af 2, ce af 3⟩ (fun hHeld => ?_)
    clear hK K
    refine nm ?_
    refine pu 5 ?_
    refine pu 6 ?_
    refine last_ (i := 7) (N := none) #[true, true, true, true, true, true, true, true] rfl rfl (one_of HT_.out (by kernel_rfl)) (by decide) (fun K hK => ?_)
    have cp : az.cell? ⟨ag, 3, none⟩ = some (.int .u64 aa) := ce af 3;have ci := blk_frozen af.out 3;have a_ := ai.out;have hms24_1 := ao.out
    refine skip_ (w1 := ?_) (by rfl) rfl ?_ ?_
    rotate_left
    ·go_simp
     rfl
    refine hK.out _ _ ?_
    clear hK K
    refine done_ (done_of HT_.out (by kernel_rfl)) ?_
    obtain ⟨ba, bb, bc, bd, bg, bh, bi, bj⟩ := g4 af
    try go_wp2
    have n0_ : Aside0 (((az.setCell ⟨ag, 3, none⟩ (.int .u64 (Go.bits .xor .u64 aj (IntKind.u64.wrap (ac + aa))))).setCell ⟨ag, 0, none⟩ (.int .u64 (IntKind.u64.wrap (ak + (Go.bits .xor .u64 aj (IntKind.u64.wrap (ac + aa))))))).heap[ag]? = some (.cells #[.int .u64 (IntKind.u64.wrap (ak + (Go.bits .xor .u64 aj (IntKind.u64.wrap (ac + aa))))), .int .u64 (Go.bits .xor .u64 an (IntKind.u64.wrap (ae + ad))), .int .u64 (IntKind.u64.wrap (ac + aa)), .int .u64 (Go.bits .xor .u64 aj (IntKind.u64.wrap (ac + aa)))] 75 (0, 0))) := ⟨by refine pk ?_; refine blk_put (cs := #[.int .u64 ak, .int .u64 (Go.bits .xor .u64 an (IntKind.u64.wrap (ae + ad))), .int .u64 (IntKind.u64.wrap (ac + aa)), .int .u64 (Go.bits .xor .u64 aj (IntKind.u64.wrap (ac + aa)))]) ?_ 0 _ rfl; refine pk ?_; refine blk_put (cs := #[.int .u64 ak, .int .u64 (Go.bits .xor .u64 an (IntKind.u64.wrap (ae + ad))), .int .u64 (IntKind.u64.wrap (ac + aa)), .int .u64 aa]) ?_ 3 _ rfl; refine pk ?_; exact af.out⟩;have n1_ : Aside0 (((az.setCell ⟨ag, 3, none⟩ (.int .u64 (Go.bits .xor .u64 aj (IntKind.u64.wrap (ac + aa))))).setCell ⟨ag, 0, none⟩ (.int .u64 (IntKind.u64.wrap (ak + (Go.bits .xor .u64 aj (IntKind.u64.wrap (ac + aa))))))).heap[aq]? = some (.cells #[.int .u64 0, .int .u64 0, .int .u64 0, .int .u64 0] 75 (0, 0))) := ⟨by refine pk ?_; refine blk_far ?_ ai.out _; refine pk ?_; refine blk_far ?_ ai.out _; refine pk ?_; exact ah.out⟩;have n2_ : Aside0 (Below w.heap.size w ((az.setCell ⟨ag, 3, none⟩ (.int .u64 (Go.bits .xor .u64 aj (IntKind.u64.wrap (ac + aa))))).setCell ⟨ag, 0, none⟩ (.int .u64 (IntKind.u64.wrap (ak + (Go.bits .xor .u64 aj (IntKind.u64.wrap (ac + aa)))))))) := ⟨pb HB⟩
    (try clear af)
    (try clear ah)
    (try clear HB)
    generalize ((az.setCell ⟨ag, 3, none⟩ (.int .u64 (Go.bits .xor .u64 aj (IntKind.u64.wrap (ac + aa))))).setCell ⟨ag, 0, none⟩ (.int .u64 (IntKind.u64.wrap (ak + (Go.bits .xor .u64 aj (IntKind.u64.wrap (ac + aa))))))) = b8 at n0_ n1_ n2_ ⊢
    have af := n0_;have ah := n1_;have HB := n2_;clear n0_ n1_ n2_;replace af := am (blk_drew af.out);replace ah := am (blk_drew ah.out);replace HB := am (below_drew1 HB.out)
    refine start_ (n := 8) (S := fun w' => w'.cell? ⟨ag, 0, none⟩ = some (.int .u64 (IntKind.u64.wrap (ak + (Go.bits .xor .u64 aj (IntKind.u64.wrap (ac + aa)))))) ∧ w'.cell? ⟨ag, 1, none⟩ = some (.int .u64 (Go.bits .xor .u64 an (IntKind.u64.wrap (ae + ad)))) ∧ w'.cell? ⟨ag, 2, none⟩ = some (.int .u64 (IntKind.u64.wrap (ac + aa))) ∧ w'.cell? ⟨ag, 3, none⟩ = some (.int .u64 (Go.bits .xor .u64 aj (IntKind.u64.wrap (ac + aa))))) (ds := [7]) #[false, false, false, false, false, false, false, false] (by kernel_rfl) rfl rfl ⟨ce af 0, ce af 1, ce af 2, ce af 3⟩ (fun hHeld => ?_); refine with_tabW r05_turns.tab10 r05_turns.bits10 (fun HT_ HW_ => ?_)
    generalize b8.drew = cv at af ah HB hHeld ⊢
    refine pu 0 ?_
    refine pu 3 ?_
    refine ta 1 hHeld ?_
    refine ta 4 hHeld ?_
    refine on1 2 (fun K hK => ?_)
    refine gs Try.func48 #[.int .u64 (Go.bits .xor .u64 aj (IntKind.u64.wrap (ac + aa))), .int .u64 21] ?_
    with_reducible refine (r05_left.calls (Go.bits .xor .u64 aj (IntKind.u64.wrap (ac + aa))) 21 ap _ A9.out).mono ?_
    rintro e aA ⟨rfl, hb⟩
    refine ⟨_, rfl, ?_⟩
    replace af := kb af hb;replace ah := kb ah hb;replace HB := lb HB hb
    (try clear hb)
    (try clear hb2)
    (try clear hk)
    (try clear hi)
    refine hK.out _ _ ⟨ce af 0, ce af 1, ce af 2, ce af 3⟩ (fun hHeld => ?_)
    clear hK K
    refine nm ?_
    refine pu 5 ?_
    refine pu 6 ?_
    refine last_ (i := 7) (N := none) #[true, true, true, true, true, true, true, true] rfl rfl (one_of HT_.out (by kernel_rfl)) (by decide) (fun K hK => ?_)
    have cq : aA.cell? ⟨ag, 3, none⟩ = some (.int .u64 (Go.bits .xor .u64 aj (IntKind.u64.wrap (ac + aa)))) := ce af 3;have cj := blk_frozen af.out 3;have bk := ai.out;have hms29_1 := ao.out
    refine skip_ (w1 := ?_) (by rfl) rfl ?_ ?_
    rotate_left
    ·go_simp
     rfl
    refine hK.out _ _ ?_
    clear hK K
    refine done_ (done_of HT_.out (by kernel_rfl)) ?_
    obtain ⟨bl, bm, bn, bo, bp, bq, br, bs⟩ := g4 af
    try go_wp2
    have n0_ : Aside0 (((aA.setCell ⟨ag, 3, none⟩ (.int .u64 (Go.bits .xor .u64 ap (IntKind.u64.wrap (ak + (Go.bits .xor .u64 aj (IntKind.u64.wrap (ac + aa)))))))).setCell ⟨ag, 2, none⟩ (.int .u64 (IntKind.u64.wrap ((IntKind.u64.wrap (ac + aa)) + (Go.bits .xor .u64 an (IntKind.u64.wrap (ae + ad))))))).heap[ag]? = some (.cells #[.int .u64 (IntKind.u64.wrap (ak + (Go.bits .xor .u64 aj (IntKind.u64.wrap (ac + aa))))), .int .u64 (Go.bits .xor .u64 an (IntKind.u64.wrap (ae + ad))), .int .u64 (IntKind.u64.wrap ((IntKind.u64.wrap (ac + aa)) + (Go.bits .xor .u64 an (IntKind.u64.wrap (ae + ad))))), .int .u64 (Go.bits .xor .u64 ap (IntKind.u64.wrap (ak + (Go.bits .xor .u64 aj (IntKind.u64.wrap (ac + aa))))))] 75 (0, 0))) := ⟨by refine pk ?_; refine blk_put (cs := #[.int .u64 (IntKind.u64.wrap (ak + (Go.bits .xor .u64 aj (IntKind.u64.wrap (ac + aa))))), .int .u64 (Go.bits .xor .u64 an (IntKind.u64.wrap (ae + ad))), .int .u64 (IntKind.u64.wrap (ac + aa)), .int .u64 (Go.bits .xor .u64 ap (IntKind.u64.wrap (ak + (Go.bits .xor .u64 aj (IntKind.u64.wrap (ac + aa))))))]) ?_ 2 _ rfl; refine pk ?_; refine blk_put (cs := #[.int .u64 (IntKind.u64.wrap (ak + (Go.bits .xor .u64 aj (IntKind.u64.wrap (ac + aa))))), .int .u64 (Go.bits .xor .u64 an (IntKind.u64.wrap (ae + ad))), .int .u64 (IntKind.u64.wrap (ac + aa)), .int .u64 (Go.bits .xor .u64 aj (IntKind.u64.wrap (ac + aa)))]) ?_ 3 _ rfl; refine pk ?_; exact af.out⟩;have n1_ : Aside0 (((aA.setCell ⟨ag, 3, none⟩ (.int .u64 (Go.bits .xor .u64 ap (IntKind.u64.wrap (ak + (Go.bits .xor .u64 aj (IntKind.u64.wrap (ac + aa)))))))).setCell ⟨ag, 2, none⟩ (.int .u64 (IntKind.u64.wrap ((IntKind.u64.wrap (ac + aa)) + (Go.bits .xor .u64 an (IntKind.u64.wrap (ae + ad))))))).heap[aq]? = some (.cells #[.int .u64 0, .int .u64 0, .int .u64 0, .int .u64 0] 75 (0, 0))) := ⟨by refine pk ?_; refine blk_far ?_ ai.out _; refine pk ?_; refine blk_far ?_ ai.out _; refine pk ?_; exact ah.out⟩;have n2_ : Aside0 (Below w.heap.size w ((aA.setCell ⟨ag, 3, none⟩ (.int .u64 (Go.bits .xor .u64 ap (IntKind.u64.wrap (ak + (Go.bits .xor .u64 aj (IntKind.u64.wrap (ac + aa)))))))).setCell ⟨ag, 2, none⟩ (.int .u64 (IntKind.u64.wrap ((IntKind.u64.wrap (ac + aa)) + (Go.bits .xor .u64 an (IntKind.u64.wrap (ae + ad)))))))) := ⟨pb HB⟩
    (try clear af)
    (try clear ah)
    (try clear HB)
    generalize ((aA.setCell ⟨ag, 3, none⟩ (.int .u64 (Go.bits .xor .u64 ap (IntKind.u64.wrap (ak + (Go.bits .xor .u64 aj (IntKind.u64.wrap (ac + aa)))))))).setCell ⟨ag, 2, none⟩ (.int .u64 (IntKind.u64.wrap ((IntKind.u64.wrap (ac + aa)) + (Go.bits .xor .u64 an (IntKind.u64.wrap (ae + ad))))))) = b9 at n0_ n1_ n2_ ⊢
    have af := n0_;have ah := n1_;have HB := n2_;clear n0_ n1_ n2_;replace af := am (blk_drew af.out);replace ah := am (blk_drew ah.out);replace HB := am (below_drew1 HB.out)
    refine start_ (n := 8) (S := fun w' => w'.cell? ⟨ag, 0, none⟩ = some (.int .u64 (IntKind.u64.wrap (ak + (Go.bits .xor .u64 aj (IntKind.u64.wrap (ac + aa)))))) ∧ w'.cell? ⟨ag, 1, none⟩ = some (.int .u64 (Go.bits .xor .u64 an (IntKind.u64.wrap (ae + ad)))) ∧ w'.cell? ⟨ag, 2, none⟩ = some (.int .u64 (IntKind.u64.wrap ((IntKind.u64.wrap (ac + aa)) + (Go.bits .xor .u64 an (IntKind.u64.wrap (ae + ad)))))) ∧ w'.cell? ⟨ag, 3, none⟩ = some (.int .u64 (Go.bits .xor .u64 ap (IntKind.u64.wrap (ak + (Go.bits .xor .u64 aj (IntKind.u64.wrap (ac + aa)))))))) (ds := [7]) #[false, false, false, false, false, false, false, false] (by kernel_rfl) rfl rfl ⟨ce af 0, ce af 1, ce af 2, ce af 3⟩ (fun hHeld => ?_); refine with_tabW r05_turns.tab12 r05_turns.bits12 (fun HT_ HW_ => ?_)
    generalize b9.drew = cw at af ah HB hHeld ⊢
    refine pu 0 ?_
    refine pu 3 ?_
    refine ta 1 hHeld ?_
    refine ta 4 hHeld ?_
    refine on1 2 (fun K hK => ?_)
    refine gs Try.func48 #[.int .u64 (Go.bits .xor .u64 an (IntKind.u64.wrap (ae + ad))), .int .u64 17] ?_
    with_reducible refine (r05_left.calls (Go.bits .xor .u64 an (IntKind.u64.wrap (ae + ad))) 17 ay _ b3.out).mono ?_
    rintro e b_ ⟨rfl, hb⟩
    refine ⟨_, rfl, ?_⟩
    replace af := kb af hb;replace ah := kb ah hb;replace HB := lb HB hb
    (try clear hb)
    (try clear hb2)
    (try clear hk)
    (try clear hi)
    refine hK.out _ _ ⟨ce af 0, ce af 1, ce af 2, ce af 3⟩ (fun hHeld => ?_)
    clear hK K
    refine nm ?_
    refine pu 5 ?_
    refine pu 6 ?_
    refine last_ (i := 7) (N := none) #[true, true, true, true, true, true, true, true] rfl rfl (one_of HT_.out (by kernel_rfl)) (by decide) (fun K hK => ?_)
    have cr : b_.cell? ⟨ag, 1, none⟩ = some (.int .u64 (Go.bits .xor .u64 an (IntKind.u64.wrap (ae + ad)))) := ce af 1;have ck := blk_frozen af.out 1;have bu := ai.out;have hms34_1 := ao.out
    refine skip_ (w1 := ?_) (by rfl) rfl ?_ ?_
    rotate_left
    ·go_simp
     rfl
    refine hK.out _ _ ?_
    clear hK K
    refine done_ (done_of HT_.out (by kernel_rfl)) ?_
    obtain ⟨bv, bw, bz, bA, bB, bC, bD, bE⟩ := g4 af
    try go_wp2_with (first | ((with_reducible refine gate_callee (f := 48) rfl ?_); refine gl (some 69) Try.func48 #[.int .u64 (IntKind.u64.wrap ((IntKind.u64.wrap (ac + aa)) + (Go.bits .xor .u64 an (IntKind.u64.wrap (ae + ad))))), .int .u64 32] ?_; (with_reducible refine (r05_left.calls (IntKind.u64.wrap ((IntKind.u64.wrap (ac + aa)) + (Go.bits .xor .u64 an (IntKind.u64.wrap (ae + ad))))) 32 aD _ b4.out).mono ?_); rintro e cx ⟨rfl, hb⟩; refine ⟨_, rfl, ?_⟩; replace af := am (blk_below (g := ag) (o := .cells #[.int .u64 (IntKind.u64.wrap (ak + (Go.bits .xor .u64 aj (IntKind.u64.wrap (ac + aa))))), .int .u64 (Go.bits .xor .u64 ay (IntKind.u64.wrap ((IntKind.u64.wrap (ac + aa)) + (Go.bits .xor .u64 an (IntKind.u64.wrap (ae + ad)))))), .int .u64 (IntKind.u64.wrap ((IntKind.u64.wrap (ac + aa)) + (Go.bits .xor .u64 an (IntKind.u64.wrap (ae + ad))))), .int .u64 (Go.bits .xor .u64 ap (IntKind.u64.wrap (ak + (Go.bits .xor .u64 aj (IntKind.u64.wrap (ac + aa))))))] 75 (0, 0)) (by refine pk ?_; refine blk_put (cs := #[.int .u64 (IntKind.u64.wrap (ak + (Go.bits .xor .u64 aj (IntKind.u64.wrap (ac + aa))))), .int .u64 (Go.bits .xor .u64 an (IntKind.u64.wrap (ae + ad))), .int .u64 (IntKind.u64.wrap ((IntKind.u64.wrap (ac + aa)) + (Go.bits .xor .u64 an (IntKind.u64.wrap (ae + ad))))), .int .u64 (Go.bits .xor .u64 ap (IntKind.u64.wrap (ak + (Go.bits .xor .u64 aj (IntKind.u64.wrap (ac + aa))))))]) ?_ 1 _ rfl; refine pk ?_; exact af.out) hb); replace ah := am (blk_below (g := aq) (o := .cells #[.int .u64 0, .int .u64 0, .int .u64 0, .int .u64 0] 75 (0, 0)) (by refine pk ?_; refine blk_far ?_ ai.out _; refine pk ?_; exact ah.out) hb); replace HB := lb HB hb; (try clear hb); (try clear hb2); (try clear hk); (try clear hi); obtain ⟨bF, bG, bH, bI, bJ, bK, bL, bM⟩ := g4 af))
    go_roundg k1
    case measure => have := HK1.out; omega
    case rel => exact ⟨(wrap64 (ar + 1)), (IntKind.u64.wrap (ak + (Go.bits .xor .u64 aj (IntKind.u64.wrap (ac + aa))))), (Go.bits .xor .u64 ay (IntKind.u64.wrap ((IntKind.u64.wrap (ac + aa)) + (Go.bits .xor .u64 an (IntKind.u64.wrap (ae + ad)))))), (aD), (Go.bits .xor .u64 ap (IntKind.u64.wrap (ak + (Go.bits .xor .u64 aj (IntKind.u64.wrap (ac + aa)))))), (by first | rfl | (simp; done) | (simp [*]; done)), H', ⟨by have := HK1.out; omega⟩, ⟨by refine pk ?_; refine blk_put (cs := #[.int .u64 (IntKind.u64.wrap (ak + (Go.bits .xor .u64 aj (IntKind.u64.wrap (ac + aa))))), .int .u64 (Go.bits .xor .u64 ay (IntKind.u64.wrap ((IntKind.u64.wrap (ac + aa)) + (Go.bits .xor .u64 an (IntKind.u64.wrap (ae + ad)))))), .int .u64 (IntKind.u64.wrap ((IntKind.u64.wrap (ac + aa)) + (Go.bits .xor .u64 an (IntKind.u64.wrap (ae + ad))))), .int .u64 (Go.bits .xor .u64 ap (IntKind.u64.wrap (ak + (Go.bits .xor .u64 aj (IntKind.u64.wrap (ac + aa))))))]) ?_ 2 _ rfl; refine pk ?_; exact af.out⟩, ⟨by refine pk ?_; refine blk_far ?_ ai.out _; refine pk ?_; exact ah.out⟩, ⟨pb HB⟩⟩
   ·rw [if_neg c5] at H;have aJ : decide (ar < a1) = false := decide_eq_false c5;clear c5
    simp only [Option.some.injEq, Prod.mk.injEq] at H
    obtain ⟨rfl, rfl, rfl, rfl⟩ := H;have cl := ao.out;have cm := ai.out;obtain ⟨bN, bO, bP, bQ, bR, bS, bT, bU⟩ := g4 af;obtain ⟨bV, bW, bX, bY, bZ, b0, b1, b2⟩ := g4 ah
    go_wp2
    refine bodyPost_ret (results_cell_row rfl _ _ aq 75 #[.int .u64 ae, .int .u64 ad, .int .u64 ac, .int .u64 aa] (0, 0) _ rfl (by refine pk ?_; refine blk_put (cs := #[.int .u64 ae, .int .u64 ad, .int .u64 ac, .int .u64 0]) ?_ 3 _ rfl; refine pk ?_; refine blk_put (cs := #[.int .u64 ae, .int .u64 ad, .int .u64 0, .int .u64 0]) ?_ 2 _ rfl; refine pk ?_; refine blk_put (cs := #[.int .u64 ae, .int .u64 0, .int .u64 0, .int .u64 0]) ?_ 1 _ rfl; refine pk ?_; refine blk_put (cs := #[.int .u64 0, .int .u64 0, .int .u64 0, .int .u64 0]) ?_ 0 _ rfl; refine pk ?_; exact ah.out) Try.underlying75 rfl (by kernel_rfl)) rfl ?_
    exact ⟨by first | rfl | (simp [errW_none, errW_some] <;> rfl) | (simp [*, errW_none, errW_some] <;> rfl), pb HB⟩
end Go.Proofs.Ytmfffbafldbihaa.H
