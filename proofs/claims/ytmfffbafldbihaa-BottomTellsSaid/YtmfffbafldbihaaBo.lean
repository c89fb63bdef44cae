import Derived.Test.YtmfffbafldbihaaHx4
import Derived.Test.YtmfffbafldbihaaHx6
import Derived.Test.YtmfffbafldbihaaHx7
import Derived.Test.YtmfffbafldbihaaHx15
import Derived.Test.YtmfffbafldbihaaHx10
import Derived.Test.YtmfffbafldbihaaHx13
import Derived.Test.YtmfffbafldbihaaHx14
import Derived.Test.YtmfffbafldbihaaHx17
import Derived.Test.YtmfffbafldbihaaHx21
import Derived.Test.YtmfffbafldbihaaHx22
import Derived.Test.YtmfffbafldbihaaHx18
import Derived.Test.YtmfffbafldbihaaSip
import Derived.Test.YtmfffbafldbihaaSipRef
set_option linter.unusedVariables false
set_option linter.unusedSimpArgs false
namespace Go.Proofs.Ytmfffbafldbihaa.Bo
open Go.RowKit Go.Proofs.Ytmfffbafldbihaa.H Go.Proofs.YtmfffbafldbihaaW.PrintWords Go.Proofs.YtmfffbafldbihaaW.PrintMore
noncomputable def yes (P : Prop) : Bool := @decide P (Classical.propDecidable P)
theorem yes_iff {P : Prop} : yes P = true ↔ P := @decide_eq_true_iff P (Classical.propDecidable P)
theorem yes_true {P : Prop} (h : P) : yes P = true := yes_iff.2 h
theorem yes_false {P : Prop} (h : ¬ P) : yes P = false := by
 cases hb : yes P with
 | false => rfl
 | true => exact absurd (yes_iff.1 hb) h
theorem yes_congr {P Q : Prop} (h : P ↔ Q) : yes P = yes Q := by rw [propext h]
theorem w64 {x : Int} (h0 : -1000000 ≤ x) (h1 : x ≤ 1000000) : wrap64 x = x := by unfold wrap64; omega
theorem inc {i n : Nat} (h : i < n) (hn : n ≤ 10000) : wrap64 ((i : Int) + 1) = ((i + 1 : Nat) : Int) := by rw [w64 (by omega) (by omega)]; omega
theorem list_inj {a b : ByteArray} (h : a.toList = b.toList) : a = b := by
 rw [Lib.toList_data, Lib.toList_data] at h
 exact ByteArray.ext (Array.toList_inj.1 h)
theorem list_iff (a b : ByteArray) : a.toList = b.toList ↔ a = b := ⟨list_inj, fun h => by rw [h]⟩
theorem cb_eq : ∀ a b : List UInt8, Lib.compareBytes a b = 0 ↔ a = b
 | [], [] => by simp [Lib.compareBytes]
 | [], _ :: _ => by simp [Lib.compareBytes]
 | _ :: _, [] => by simp [Lib.compareBytes]
 | a :: x, b :: y => by
  unfold Lib.compareBytes
  have ih := cb_eq x y
  split
  ·rename_i h
   constructor
   ·intro h2; omega
   ·intro h2; injection h2 with e _; subst e; exact absurd h (UInt8.lt_irrefl a)
  ·split
   ·rename_i h
    constructor
    ·intro h2; omega
    ·intro h2; injection h2 with e _; subst e; exact absurd h (UInt8.lt_irrefl a)
   ·rename_i h1 h2
    have e : a = b := by
     apply UInt8.toNat_inj.1
     rw [UInt8.lt_iff_toNat_lt] at h1 h2
     omega
    subst e
    rw [ih]
    simp
theorem cb_less : ∀ a b : List UInt8, Op.bytesLess a b = decide (Lib.compareBytes a b < 0)
 | [], [] => by simp [Lib.compareBytes, Op.bytesLess]
 | [], _ :: _ => by simp [Lib.compareBytes, Op.bytesLess]
 | _ :: _, [] => by simp [Lib.compareBytes, Op.bytesLess]
 | a :: x, b :: y => by
  unfold Lib.compareBytes Op.bytesLess
  have ih := cb_less x y
  by_cases h1 : a < b
  ·rw [if_pos h1]; simp [h1]
  ·by_cases h2 : b < a
   ·have h3 : (a == b) = false := by rw [beq_eq_false_iff_ne]; rintro rfl; exact absurd h2 h1
    rw [if_neg h1, if_pos h2]; simp [h1, h3]
   ·have h3 : a = b := by
     apply UInt8.toNat_inj.1
     rw [UInt8.lt_iff_toNat_lt] at h1 h2
     omega
    subst h3
    rw [if_neg h1, if_neg h1, ih]; simp [h1]
theorem cb_trans : ∀ a b c : List UInt8, Lib.compareBytes a b < 0 → Lib.compareBytes b c < 0 → Lib.compareBytes a c < 0
 | [], [], _ => by simp [Lib.compareBytes]
 | [], _ :: _, [] => by simp [Lib.compareBytes]
 | [], _ :: _, _ :: _ => by simp [Lib.compareBytes]
 | _ :: _, [], _ => by simp [Lib.compareBytes]
 | _ :: _, _ :: _, [] => by simp [Lib.compareBytes]
 | a :: x, b :: y, c :: z => by
  have ih := cb_trans x y z
  unfold Lib.compareBytes
  simp only [UInt8.lt_iff_toNat_lt]
  intro h1 h2
  split at h1
  ·split at h2
   ·rw [if_pos (by omega)]; decide
   ·split at h2
    ·omega
    ·rw [if_pos (by omega)]; decide
  ·split at h1
   ·omega
   ·split at h2
    ·rw [if_pos (by omega)]; decide
    ·split at h2
     ·omega
     ·rw [if_neg (by omega), if_neg (by omega)]
      exact ih h1 h2
def cp (y x : S62) : Int := if y.f1 < x.f1 then -1 else if y.f1 > x.f1 then 1 else Lib.compareBytes y.f0.data.toList x.f0.data.toList
theorem cp_zero (y x : S62) : cp y x = 0 ↔ y.f1 = x.f1 ∧ y.f0 = x.f0 := by
 unfold cp
 split
 ·exact ⟨fun h => by omega, fun h => by omega⟩
 ·split
  ·exact ⟨fun h => by omega, fun h => by omega⟩
  ·rw [cb_eq]
   exact ⟨fun h => ⟨by omega, ByteArray.ext (Array.toList_inj.1 h)⟩, fun h => by rw [h.2]⟩
theorem cp_trans {x y z : S62} (h1 : cp x y < 0) (h2 : cp y z < 0) : cp x z < 0 := by
 unfold cp at *
 split at h1
 ·split at h2
  ·rw [if_pos (by omega)]; decide
  ·split at h2
   ·omega
   ·rw [if_pos (by omega)]; decide
 ·split at h1
  ·omega
  ·split at h2
   ·rw [if_pos (by omega)]; decide
   ·split at h2
    ·omega
    ·rw [if_neg (by omega), if_neg (by omega)]
     exact cb_trans _ _ _ h1 h2
theorem or_eq (k : Nat) (a b : Int) : cmp_Or_int.f (k + 3) [a, b] = some (if a = 0 then b else a) := by
 have e1 : wrap64 (0 + 1) = 1 := by unfold wrap64; omega
 have e2 : wrap64 (1 + 1) = 2 := by unfold wrap64; omega
 show cmp_Or_int.l0 (k + 3) 0 [a, b] 2 0 = _
 unfold cmp_Or_int.l0
 rw [if_pos (by decide), if_pos (by decide), if_pos (show (0 : Int) < (([a, b] : List Int).length : Int) by simp), show rd [a, b] 0 = a from rfl, e1]
 by_cases h : a = 0
 ·rw [if_pos h, if_pos h]
  unfold cmp_Or_int.l0
  rw [if_pos (by decide), if_pos (by decide), if_pos (show (1 : Int) < (([a, b] : List Int).length : Int) by simp), show rd [a, b] 1 = b from rfl, e2]
  by_cases h2 : b = 0
  ·rw [if_pos h2]
   unfold cmp_Or_int.l0
   rw [if_neg (by decide), h2]
  ·rw [if_neg h2]
 ·rw [if_neg h, if_neg h]
theorem compare_eq (y x : S62) (k : Nat) (hk : 3 ≤ k) : bottom_compare.f k y.f0 y.f1 y.f2.f0 y.f2.f1 x.f0 x.f1 x.f2.f0 x.f2.f1 = some (cp y x) := by
 obtain ⟨k, rfl⟩ : ∃ k', k = k' + 3 := ⟨k - 3, by omega⟩
 have hc : cmp_Compare_uint64.f y.f1 x.f1 = some (if y.f1 < x.f1 then -1 else if y.f1 > x.f1 then 1 else 0) := by
  unfold cmp_Compare_uint64.f cmp_isNaN_uint64.f
  simp only [bne_self_eq_false, Option.bind_some]
  rw [if_neg (by decide), if_neg (by decide)]
  split
  ·rfl
  ·split <;> rfl
 unfold bottom_compare.f
 rw [hc, Option.bind_some]
 unfold strings_Compare.f bytealg_CompareString.f
 rw [Option.bind_some, Option.bind_some, or_eq, Option.bind_some]
 unfold cp
 split
 ·rw [if_neg (by decide)]
 ·split
  ·rw [if_neg (by decide)]
  ·rw [if_pos rfl]
def Srt (l : List S62) : Prop := l.Pairwise fun y x => cp y x < 0
def pos (x : S62) : List S62 → Nat
 | [] => 0
 | y :: l => if cp y x < 0 then pos x l + 1 else 0
theorem pos_le (x : S62) : ∀ l, pos x l ≤ l.length
 | [] => Nat.le_refl _
 | y :: l => by
  have := pos_le x l
  unfold pos
  split
  ·simp only [List.length_cons]; omega
  ·omega
theorem pos_lo (x : S62) : ∀ (l : List S62) (m : Nat), m < pos x l → cp (l.getD m z62) x < 0
 | [], m, h => absurd h (Nat.not_lt_zero _)
 | y :: l, m, h => by
  unfold pos at h
  split at h
  ·rename_i hy
   cases m with
   | zero => exact hy
   | succ m => exact pos_lo x l m (by omega)
  ·exact absurd h (Nat.not_lt_zero _)
theorem srt_ge {x y : S62} {l : List S62} (hs : Srt (y :: l)) (h : ¬ cp y x < 0) : ∀ z ∈ l, ¬ cp z x < 0 := fun z hz hzx => by
 have := (List.pairwise_cons.1 hs).1 z hz
 exact h (cp_trans this hzx)
theorem pos_hi (x : S62) : ∀ (l : List S62), Srt l → ∀ m, pos x l ≤ m → m < l.length → ¬ cp (l.getD m z62) x < 0
 | [], _, m, _, h => absurd h (Nat.not_lt_zero _)
 | y :: l, hs, m, h, hm => by
  unfold pos at h
  split at h
  ·obtain ⟨m, rfl⟩ : ∃ m', m = m' + 1 := ⟨m - 1, by omega⟩
   exact pos_hi x l (List.pairwise_cons.1 hs).2 m (by omega) (by simpa using hm)
  ·rename_i hy
   cases m with
   | zero => exact hy
   | succ m =>
    have hm' : m < l.length := by simpa using hm
    refine srt_ge hs hy _ ?_
    show l.getD m z62 ∈ l
    rw [List.getD_eq_getElem?_getD, List.getElem?_eq_getElem hm']
    exact List.getElem_mem hm'
theorem bsF_eq {α : Type} (p : α → Option Int) (l : List α) (d : α) (c : Nat → Int) (hp : ∀ m, m < l.length → p (l.getD m d) = some (c m)) (b : Nat) (hlo : ∀ m, m < b → c m < 0) (hhi : ∀ m, b ≤ m → m < l.length → ¬ c m < 0) :
  ∀ (n i j : Nat), i ≤ b → b ≤ j → j ≤ l.length → j - i ≤ n → bsF p l d n (i : Int) (j : Int) = some (b : Int)
 | 0, i, j, h1, h2, h3, h4 => by
  rw [bsF, if_neg (by omega)]
  congr 1; omega
 | n + 1, i, j, h1, h2, h3, h4 => by
  rw [bsF]
  by_cases h : i < j
  ·rw [if_pos (by omega)]
   have e : ((i : Int) + j) / 2 = ((i + j) / 2 : Nat) := by omega
   rw [e, Int.toNat_natCast, hp _ (by omega), Option.bind_some]
   by_cases hc : c ((i + j) / 2) < 0
   ·rw [if_pos hc]
    have hb : (i + j) / 2 < b := by
     rcases Nat.lt_or_ge ((i + j) / 2) b with h5 | h5
     ·exact h5
     ·exact absurd hc (hhi _ h5 (by omega))
    have := bsF_eq p l d c hp b hlo hhi n ((i + j) / 2 + 1) j (by omega) h2 h3 (by omega)
    simpa using this
   ·rw [if_neg hc]
    have hb : b ≤ (i + j) / 2 := by
     rcases Nat.lt_or_ge ((i + j) / 2) b with h5 | h5
     ·exact absurd (hlo _ h5) hc
     ·exact h5
    exact bsF_eq p l d c hp b hlo hhi n i ((i + j) / 2) h1 hb (by omega) (by omega)
  ·rw [if_neg (by omega)]
   congr 1; omega
def hit (x : S62) (l : List S62) : Bool := decide (pos x l < l.length) && decide (cp (l.getD (pos x l) z62) x = 0)
theorem bsT_eq (x : S62) (l : List S62) (hs : Srt l) (k : Nat) (hk : 3 ≤ k) :
  bsT (fun y => bottom_compare.f k y.f0 y.f1 y.f2.f0 y.f2.f1 x.f0 x.f1 x.f2.f0 x.f2.f1) l z62 = some ((pos x l : Int), hit x l) := by
 unfold bsT
 have h := bsF_eq (fun y => bottom_compare.f k y.f0 y.f1 y.f2.f0 y.f2.f1 x.f0 x.f1 x.f2.f0 x.f2.f1) l z62 (fun m => cp (l.getD m z62) x) (fun m _ => compare_eq _ x k hk) (pos x l) (pos_lo x l) (pos_hi x l hs) l.length 0 l.length (Nat.zero_le _) (pos_le x l) (Nat.le_refl _) (by omega)
 rw [show ((0 : Nat) : Int) = 0 from rfl] at h
 rw [h, Option.bind_some]
 unfold hit
 by_cases hp : pos x l < l.length
 ·rw [if_pos (by omega), Int.toNat_natCast]
  simp only
  rw [compare_eq _ x k hk, Option.bind_some]
  simp [hp]
 ·rw [if_neg (by omega)]
  simp [hp]
def num (c : S50) : Int := c.f0 * 18446744073709551616 + c.f1
def Rng (c : S50) : Prop := (0 ≤ c.f0 ∧ c.f0 < 18446744073709551616) ∧ (0 ≤ c.f1 ∧ c.f1 < 18446744073709551616)
def mkU (n : Int) : S50 := ⟨n / 18446744073709551616, n % 18446744073709551616⟩
def top : Int := 340282366920938463463374607431768211456
theorem num_mkU (n : Int) : num (mkU n) = n := by unfold num mkU; simp only; omega
theorem rng_mkU {n : Int} (h0 : 0 ≤ n) (h1 : n < top) : Rng (mkU n) := by unfold Rng mkU; unfold top at h1; simp only; omega
theorem num_nonneg {c : S50} (h : Rng c) : 0 ≤ num c := by obtain ⟨⟨h1, h2⟩, h3, h4⟩ := h; unfold num; omega
theorem add_rng {a b c d : Int} (h1 : Rng ⟨a, b⟩) (h2 : Rng ⟨c, d⟩) : wide_Add.f a b c d = some (if num ⟨a, b⟩ + num ⟨c, d⟩ < top then ((mkU (num ⟨a, b⟩ + num ⟨c, d⟩)).f0, (mkU (num ⟨a, b⟩ + num ⟨c, d⟩)).f1, true) else (0, 0, false)) := by
 obtain ⟨⟨p1, p2⟩, p3, p4⟩ := h1
 obtain ⟨⟨q1, q2⟩, q3, q4⟩ := h2
 simp only at p1 p2 p3 p4 q1 q2 q3 q4
 unfold wide_Add.f
 rw [if_pos ⟨p1, p2, p3, p4, q1, q2, q3, q4⟩]
 unfold num mkU top
 simp only
 by_cases h : a + c + (b + d) / 18446744073709551616 < 18446744073709551616
 ·rw [if_pos h, if_pos (by omega)]
  congr 2
  ·omega
  ·congr 1
   omega
 ·rw [if_neg h, if_neg (by omega)]
def un (y x : S62) : Option S62 := if num y.f2 + num x.f2 < top then some ⟨y.f0, y.f1, mkU (num y.f2 + num x.f2)⟩ else none
def ins (x : S62) : List S62 → Option (List S62)
 | [] => some [x]
 | y :: l => if cp y x < 0 then (ins x l).map (y :: ·) else if cp y x = 0 then (un y x).map (· :: l) else some (x :: y :: l)
theorem ins_new (x : S62) : ∀ l : List S62, hit x l = false → ins x l = some (l.take (pos x l) ++ [x] ++ l.drop (pos x l))
 | [], _ => rfl
 | y :: l, h => by
  unfold ins
  unfold hit pos at h
  unfold pos
  split
  ·rename_i hy
   rw [if_pos hy] at h
   have ih := ins_new x l (by unfold hit; simpa using h)
   rw [ih]
   rfl
  ·rename_i hy
   rw [if_neg hy] at h
   have h0 : ¬ cp y x = 0 := by intro h0; simp [h0] at h
   rw [if_neg h0]
   rfl
theorem ins_old (x : S62) : ∀ l : List S62, hit x l = true → ins x l = (un (l.getD (pos x l) z62) x).map fun z => l.set (pos x l) z
 | [], h => by unfold hit at h; simp at h
 | y :: l, h => by
  unfold ins
  unfold hit pos at h
  unfold pos
  split
  ·rename_i hy
   rw [if_pos hy] at h
   have ih := ins_old x l (by unfold hit; simpa using h)
   rw [ih, Option.map_map]
   rfl
  ·rename_i hy
   rw [if_neg hy] at h
   have h0 : cp y x = 0 := by simpa using h
   rw [if_pos h0]
   rfl
def Rl (l : List S62) : Prop := ∀ y ∈ l, Rng y.f2
theorem rl_get {l : List S62} (h : Rl l) {m : Nat} (hm : m < l.length) : Rng (l.getD m z62).f2 := by
 rw [List.getD_eq_getElem?_getD, List.getElem?_eq_getElem hm]
 exact h _ (List.getElem_mem hm)
theorem cut_eq (a b : Int) (K : Nat) (hK : K ≤ 1024) (m : List S62) : bottom_add.cut a b (K : Int) m = some (a, b, (K : Int), m.take (K + 1), 0) := by
 unfold bottom_add.cut
 rw [w64 (by omega) (by omega), if_pos (by omega)]
 congr 4
 congr 1
 rcases Nat.le_total m.length (K + 1) with h | h
 ·rw [show (min (m.length : Int) ((K : Int) + 1)).toNat = m.length by omega, List.take_of_length_le (Nat.le_refl _), List.take_of_length_le h]
 ·rw [show (min (m.length : Int) ((K : Int) + 1)).toNat = K + 1 by omega]
def res (a b : Int) (K : Nat) (l : List S62) : Option (List S62) → Int × Int × Int × List S62 × Int
 | some m => (a, b, (K : Int), m.take (K + 1), 0)
 | none => (a, b, (K : Int), l, 12)
theorem add_eq (a b : Int) (K : Nat) (hK : K ≤ 1024) (l : List S62) (hl : l.length < 1000000) (hs : Srt l) (hr : Rl l) (x : S62) (hx : Rng x.f2) (k : Nat) (hk : 3 ≤ k) :
  bottom_add.f k a b (K : Int) l x.f0 x.f1 x.f2.f0 x.f2.f1 = some (res a b K l (ins x l)) := by
 unfold bottom_add.f
 rw [if_pos hl, bsT_eq x l hs k hk, Option.bind_some]
 have hle := pos_le x l
 cases hh : hit x l with
 | false =>
  simp only
  rw [if_neg (by decide), if_pos (by omega), Int.toNat_natCast, cut_eq a b K hK, ins_new x l hh]
  rfl
 | true =>
  have hp : pos x l < l.length := by unfold hit at hh; simp at hh; exact hh.1
  simp only
  rw [if_pos trivial, if_pos (by omega)]
  have e : rd_T62 l (pos x l : Int) = l.getD (pos x l) z62 := by show l.getD (pos x l : Int).toNat z62 = _; rw [Int.toNat_natCast]
  rw [e, add_rng (rl_get hr hp) hx, Option.bind_some, ins_old x l hh]
  unfold un
  by_cases hc : num (l.getD (pos x l) z62).f2 + num x.f2 < top
  ·rw [if_pos hc, if_pos hc]
   simp only
   rw [if_pos trivial, Int.toNat_natCast, cut_eq a b K hK]
   rfl
  ·rw [if_neg hc, if_neg hc]
   simp only
   rw [if_neg (by decide)]
   rfl
theorem awake_eq (k : Nat) (hk : 60 ≤ k) : l14_awake.f k = some true := by
 have h := l14_awake.up (k - 60) 60 l14_awake.atK
 rwa [show 60 + (k - 60) = k by omega] at h
theorem awake_bind (k : Nat) (hk : 60 ≤ k) : ((l14_awake.f k).bind fun t => some t) = some true := by rw [awake_eq k hk]; rfl
def cv (x : S62) : S60 := ⟨x.f0, x.f1, ⟨x.f2.f0, x.f2.f1⟩⟩
def G (l : List S62) (i : Nat) : S62 := l.getD i z62
def D (l : List S60) (i : Nat) : S60 := l.getD i z60
theorem G_rd (l : List S62) (i : Nat) : rd_T62 l (i : Int) = G l i := by show l.getD (i : Int).toNat z62 = _; rw [Int.toNat_natCast]; rfl
theorem D_rd (l : List S60) (i : Nat) : rd_T60 l (i : Int) = D l i := by show l.getD (i : Int).toNat z60 = _; rw [Int.toNat_natCast]; rfl
theorem G_get {l : List S62} {i : Nat} (h : i < l.length) : G l i = l[i] := by unfold G; rw [List.getD_eq_getElem?_getD, List.getElem?_eq_getElem h]; rfl
theorem D_get {l : List S60} {i : Nat} (h : i < l.length) : D l i = l[i] := by unfold D; rw [List.getD_eq_getElem?_getD, List.getElem?_eq_getElem h]; rfl
theorem D_map {l : List S62} {i : Nat} (h : i < l.length) : D (l.map cv) i = cv (G l i) := by rw [D_get (by simpa using h), G_get h, List.getElem_map]
theorem refs_l0 (l : List S62) (hn : l.length < 3518437208883) : ∀ m k i, l.length = i + m → m < k → l14_Refs.l0 k ((l.take i).map cv) l (l.length : Int) (i : Int) = some (l.map cv)
 | 0, k, i, hi, hk => by
  obtain ⟨k, rfl⟩ : ∃ k', k = k' + 1 := ⟨k - 1, by omega⟩
  unfold l14_Refs.l0
  rw [if_neg (by omega), List.take_of_length_le (by omega)]
 | m + 1, k, i, hi, hk => by
  obtain ⟨k, rfl⟩ : ∃ k', k = k' + 1 := ⟨k - 1, by omega⟩
  have ih := refs_l0 l hn m k (i + 1) (by omega) (by omega)
  have hw : wrap64 ((i : Int) + 1) = ((i + 1 : Nat) : Int) := by unfold wrap64; omega
  unfold l14_Refs.l0
  rw [if_pos (by omega), if_pos (by omega), if_pos (by omega), if_pos (by rw [List.length_map, List.length_take]; omega), G_rd, hw]
  have e : (l.take i).map cv ++ [cv (G l i)] = (l.take (i + 1)).map cv := by
   rw [List.take_add_one, List.map_append, List.getElem?_eq_getElem (by omega), G_get (by omega)]
   rfl
  rw [← e] at ih
  exact ih
theorem refs_eq (l : List S62) (hn : l.length < 3518437208883) (k : Nat) (hk : l.length < k) : l14_Refs.f k l = some (l.map cv) := by
 unfold l14_Refs.f
 exact refs_l0 l hn l.length k 0 (by omega) (by omega)
theorem ref_eq (a b K : Int) (l : List S62) (hn : l.length < 3518437208883) (k : Nat) (hk : l.length < k) : l14_ref.f k a b K l = some (a, b, K, l.map cv) := by
 unfold l14_ref.f
 rw [refs_eq l hn k hk, Option.bind_some]
def Small (l : List S62) : Prop := l.length ≤ 60 ∧ ∀ x ∈ l, x.f0.size ≤ 100
theorem small_l0 (a b K : Int) (l : List S62) (hn : l.length ≤ 60) : ∀ m k i, l.length = i + m → m < k → r14_Small.l0 k (i : Int) a b K (l.map cv) = some (yes (∀ j, i ≤ j → j < l.length → (G l j).f0.size ≤ 100))
 | 0, k, i, hi, hk => by
  obtain ⟨k, rfl⟩ : ∃ k', k = k' + 1 := ⟨k - 1, by omega⟩
  unfold r14_Small.l0
  rw [List.length_map, if_neg (by omega), yes_true (fun j h1 h2 => by omega)]
 | m + 1, k, i, hi, hk => by
  obtain ⟨k, rfl⟩ : ∃ k', k = k' + 1 := ⟨k - 1, by omega⟩
  have ih := small_l0 a b K l hn m k (i + 1) (by omega) (by omega)
  unfold r14_Small.l0
  rw [List.length_map, if_pos (by omega), if_pos (by omega), D_rd, D_map (by omega), inc (show i < 60 by omega) (by omega), ih]
  by_cases h : ((cv (G l i)).f0.size : Int) > 100
  ·rw [if_pos h, yes_false (fun hh => by have := hh i (Nat.le_refl _) (by omega); have : ((G l i).f0.size : Int) > 100 := h; omega)]
  ·rw [if_neg h]
   congr 1
   apply yes_congr
   have h' : (G l i).f0.size ≤ 100 := by have : ¬ ((G l i).f0.size : Int) > 100 := h; omega
   exact ⟨fun hh j h1 h2 => by rcases Nat.eq_or_lt_of_le h1 with e | e; exact e ▸ h'; exact hh j e h2, fun hh j h1 h2 => hh j (by omega) h2⟩
theorem small_eq (a b K : Int) (l : List S62) (k : Nat) (hk : 61 ≤ k) : r14_Small.f k a b K (l.map cv) = some (yes (Small l)) := by
 unfold r14_Small.f
 rw [List.length_map]
 by_cases h : l.length ≤ 60
 ·rw [if_neg (by omega), show (0 : Int) = ((0 : Nat) : Int) from rfl, small_l0 a b K l h l.length k 0 (by omega) (by omega)]
  congr 1
  apply yes_congr
  unfold Small
  constructor
  ·intro hh
   refine ⟨h, fun x hx => ?_⟩
   obtain ⟨j, hj, rfl⟩ := List.getElem_of_mem hx
   rw [← G_get hj]
   exact hh j (Nat.zero_le _) hj
  ·intro hh j _ hj
   rw [G_get hj]
   exact hh.2 _ (List.getElem_mem hj)
 ·rw [if_pos (by omega), yes_false (fun hh => h hh.1)]
theorem same_l0 (l m : List S60) (hlm : l.length = m.length) (hn : l.length ≤ 9000) : ∀ n k i, l.length = i + n → n < k → r14_Same.l0 k l m (i : Int) = some (yes (∀ j, i ≤ j → j < l.length → D l j = D m j))
 | 0, k, i, hi, hk => by
  obtain ⟨k, rfl⟩ : ∃ k', k = k' + 1 := ⟨k - 1, by omega⟩
  unfold r14_Same.l0
  rw [if_neg (by omega), yes_true (fun j h1 h2 => by omega)]
 | n + 1, k, i, hi, hk => by
  obtain ⟨k, rfl⟩ : ∃ k', k = k' + 1 := ⟨k - 1, by omega⟩
  have ih := same_l0 l m hlm hn n k (i + 1) (by omega) (by omega)
  unfold r14_Same.l0
  rw [if_pos (by omega), if_pos (by omega), if_pos (by omega), D_rd, D_rd, inc (show i < l.length by omega) (by omega), ih]
  by_cases h : D l i = D m i
  ·rw [h, if_neg (by simp)]
   congr 1
   apply yes_congr
   exact ⟨fun hh j h1 h2 => by rcases Nat.eq_or_lt_of_le h1 with e | e; exact e ▸ h; exact hh j e h2, fun hh j h1 h2 => hh j (by omega) h2⟩
  ·rw [if_pos ?_, yes_false (fun hh => h (hh i (Nat.le_refl _) (by omega)))]
   apply Classical.byContradiction
   intro hc
   apply h
   simp only [Bool.or_eq_true, Bool.not_eq_true', beq_eq_false_iff_ne, ne_eq, not_or, Decidable.not_not] at hc
   obtain ⟨h1, h2, h3, h4⟩ := hc
   revert h1 h2 h3 h4
   generalize D l i = x
   generalize D m i = y
   obtain ⟨p, q, r, s⟩ := x
   obtain ⟨p', q', r', s'⟩ := y
   intro h1 h2 h3 h4
   have h0 := list_inj h1
   simp only at h0 h2 h3 h4
   rw [h0, h2, h3, h4]
theorem rsame_eq (l m : List S60) (hn : l.length ≤ 9000) (k : Nat) (hk : 9001 ≤ k) : r14_Same.f k l m = some (yes (l = m)) := by
 unfold r14_Same.f
 by_cases h : l.length = m.length
 ·rw [if_pos (by omega), show (0 : Int) = ((0 : Nat) : Int) from rfl, same_l0 l m h hn l.length k 0 (by omega) (by omega)]
  congr 1
  apply yes_congr
  constructor
  ·intro hh
   apply List.ext_getElem h
   intro i h1 h2
   rw [← D_get h1, ← D_get h2]
   exact hh i (Nat.zero_le _) h1
  ·rintro rfl j _ _
   rfl
 ·rw [if_neg (by omega), yes_false (fun e => h (by rw [e]))]
theorem same_eq (a b K a' b' K' : Int) (l : List S62) (m : List S60) (hn : l.length ≤ 9000) (k : Nat) (hk : 9001 ≤ k) : l14_same.f k a b K l a' b' K' m = some (yes ((a = a' ∧ b = b') ∧ K = K' ∧ l.map cv = m)) := by
 unfold l14_same.f
 by_cases h : a = a' ∧ b = b'
 ·rw [if_pos (by simp [h.1, h.2])]
  by_cases h2 : K = K'
  ·rw [if_pos h2, refs_eq l (by omega) k (by omega), Option.bind_some, rsame_eq _ _ (by rw [List.length_map]; exact hn) k hk, Option.bind_some]
   congr 1
   apply yes_congr
   exact ⟨fun hh => ⟨h, h2, hh⟩, fun hh => hh.2.2⟩
  ·rw [if_neg h2, yes_false (fun hh => h2 hh.2.1)]
 ·rw [if_neg (by simpa using h), yes_false (fun hh => h hh.1)]
def H (a b : Int) (key : ByteArray) : Int := Sip.sum a b key.data.toList
def Ge (a b : Int) (x : S62) : Prop := x.f0.size ≤ 64 ∧ x.f1 = H a b x.f0 ∧ ¬ (x.f2.f0 = 0 ∧ x.f2.f1 = 0)
def Adj (a b : Int) (l : List S62) (i : Nat) : Prop := ∀ j, i ≤ j → j < l.length → Ge a b (G l j) ∧ (0 < j → cp (G l (j - 1)) (G l j) < 0)
theorem right_l0 (a b K : Int) (l : List S62) (hn : l.length ≤ 1025) : ∀ m k i, l.length = i + m → m + 30 < k → bottom_Right.l0 k l (l.length : Int) (i : Int) a b K l = some (yes (Adj a b l i))
 | 0, k, i, hi, hk => by
  obtain ⟨k, rfl⟩ : ∃ k', k = k' + 1 := ⟨k - 1, by omega⟩
  unfold bottom_Right.l0
  rw [if_neg (by omega), yes_true (P := Adj a b l i) (fun j h1 h2 => by omega)]
 | m + 1, k, i, hi, hk => by
  obtain ⟨k, rfl⟩ : ∃ k', k = k' + 1 := ⟨k - 1, by omega⟩
  have ih := right_l0 a b K l hn m k (i + 1) (by omega) (by omega)
  have hi' : i < l.length := by omega
  unfold bottom_Right.l0
  rw [if_pos (by omega), if_pos (by omega), if_pos (by omega), G_rd]
  have no : ∀ {P : Prop}, ¬ P → (Adj a b l i → P) → (some false : Option Bool) = some (yes (Adj a b l i)) := fun h1 h2 => by rw [yes_false (fun h => h1 (h2 h))]
  by_cases h1 : ((G l i).f0.size : Int) > 64
  ·rw [if_pos h1]
   exact no (P := (G l i).f0.size ≤ 64) (by omega) (fun h => (h i (Nat.le_refl _) hi').1.1)
  ·rw [if_neg h1, Sip.sum_eq a b (G l i).f0 (by omega) k (by omega), Option.bind_some]
   by_cases h2 : (G l i).f1 = Sip.sum a b (G l i).f0.data.toList
   ·rw [if_pos h2]
    by_cases h3 : (G l i).f2.f0 = 0 ∧ (G l i).f2.f1 = 0
    ·rw [if_pos (by simp [h3.1, h3.2])]
     exact no (P := ¬ ((G l i).f2.f0 = 0 ∧ (G l i).f2.f1 = 0)) (fun h => h h3) (fun h => (h i (Nat.le_refl _) hi').1.2.2)
    ·rw [if_neg (by simpa using h3)]
     have hg : Ge a b (G l i) := ⟨by omega, h2, h3⟩
     have step : (0 < i → cp (G l (i - 1)) (G l i) < 0) → some (yes (Adj a b l (i + 1))) = some (yes (Adj a b l i)) := fun hc => by
      congr 1
      apply yes_congr
      exact ⟨fun hh j h1 h2 => by rcases Nat.eq_or_lt_of_le h1 with e | e; exact e ▸ ⟨hg, hc⟩; exact hh j e h2, fun hh j h1 h2 => hh j (by omega) h2⟩
     rw [inc hi' (by omega), ih]
     by_cases h4 : i = 0
     ·rw [if_neg (by omega)]
      exact step (fun h => by omega)
     ·have e : wrap64 ((i : Int) - 1) = ((i - 1 : Nat) : Int) := by rw [w64 (by omega) (by omega)]; omega
      rw [if_pos (by omega), e, if_pos (by omega), if_pos (by omega), G_rd, compare_eq _ _ k (by omega), Option.bind_some]
      by_cases h5 : cp (G l (i - 1)) (G l i) ≥ 0
      ·rw [if_pos h5]
       exact no (P := cp (G l (i - 1)) (G l i) < 0) (by omega) (fun h => (h i (Nat.le_refl _) hi').2 (by omega))
      ·rw [if_neg h5]
       exact step (fun _ => by omega)
   ·rw [if_neg h2]
    exact no (P := (G l i).f1 = H a b (G l i).f0) h2 (fun h => (h i (Nat.le_refl _) hi').1.2.1)
def Rt (a b K : Int) (l : List S62) : Prop := (1 ≤ K ∧ K ≤ 1024) ∧ (l.length : Int) ≤ K + 1 ∧ (∀ x ∈ l, Ge a b x) ∧ Srt l
theorem adj_srt : ∀ (l : List S62), (∀ j, 0 < j → j < l.length → cp (G l (j - 1)) (G l j) < 0) → Srt l
 | [], _ => List.Pairwise.nil
 | y :: l, h => by
  have ih := adj_srt l (fun j h1 h2 => by
   have := h (j + 1) (by omega) (by simpa using h2)
   rw [Nat.add_sub_cancel] at this
   obtain ⟨j, rfl⟩ : ∃ j', j = j' + 1 := ⟨j - 1, by omega⟩
   exact this)
  refine List.pairwise_cons.2 ⟨fun z hz => ?_, ih⟩
  cases l with
  | nil => cases hz
  | cons u l =>
   have h1 : cp y u < 0 := h 1 (by omega) (by simp)
   rcases List.mem_cons.1 hz with rfl | hz
   ·exact h1
   ·exact cp_trans h1 ((List.pairwise_cons.1 ih).1 z hz)
theorem rt_adj (a b : Int) (l : List S62) : Adj a b l 0 ↔ (∀ x ∈ l, Ge a b x) ∧ Srt l := by
 constructor
 ·intro h
  refine ⟨fun x hx => ?_, adj_srt l (fun j h1 h2 => (h j (Nat.zero_le _) h2).2 h1)⟩
  obtain ⟨j, hj, rfl⟩ := List.getElem_of_mem hx
  rw [← G_get hj]
  exact (h j (Nat.zero_le _) hj).1
 ·rintro ⟨h1, h2⟩ j _ hj
  refine ⟨by rw [G_get hj]; exact h1 _ (List.getElem_mem hj), fun h0 => ?_⟩
  rw [G_get hj, G_get (by omega)]
  exact List.pairwise_iff_getElem.1 h2 (j - 1) j (by omega) hj (by omega)
theorem right_eq (a b K : Int) (l : List S62) (k : Nat) (hk : 1100 ≤ k) : bottom_Right.f k a b K l = some (yes (Rt a b K l)) := by
 obtain ⟨k, rfl⟩ : ∃ k', k = k' + 1 := ⟨k - 1, by omega⟩
 have no : ¬ Rt a b K l → bottom_Right.j0 (k + 1) true a b K l = some (yes (Rt a b K l)) := fun h => by rw [bottom_Right.j0, if_pos rfl, yes_false h]
 unfold bottom_Right.f
 by_cases h1 : K < 1
 ·rw [if_pos h1]
  exact no (fun h => by have := h.1.1; omega)
 ·rw [if_neg h1]
  by_cases h2 : K > 1024
  ·rw [if_pos h2]
   exact no (fun h => by have := h.1.2; omega)
  ·rw [if_neg h2, w64 (by omega) (by omega)]
   by_cases h3 : (l.length : Int) > K + 1
   ·rw [decide_eq_true h3]
    exact no (fun h => by have := h.2.1; omega)
   ·rw [decide_eq_false h3, bottom_Right.j0, if_neg (by decide), show (0 : Int) = ((0 : Nat) : Int) from rfl, right_l0 a b K l (by omega) l.length k 0 (by omega) (by omega)]
    congr 1
    apply yes_congr
    rw [rt_adj]
    exact ⟨fun h => ⟨⟨by omega, by omega⟩, by omega, h⟩, fun h => h.2.2⟩
def en (a b : Int) (key : ByteArray) (n : Int) : S62 := ⟨key, H a b key, ⟨0, n⟩⟩
theorem en_rng {a b : Int} {key : ByteArray} {n : Int} (h0 : 0 ≤ n) (h1 : n ≤ 18446744073709551615) : Rng (en a b key n).f2 := ⟨⟨by show (0 : Int) ≤ 0; omega, by show (0 : Int) < _; omega⟩, h0, by show n < _; omega⟩
theorem Add_eq (a b : Int) (K : Nat) (l : List S62) (h : Rt a b K l) (hr : Rl l) (key : ByteArray) (n : Int) (hs : key.size ≤ 64) (h0 : 0 < n) (h1 : n ≤ 18446744073709551615) (k : Nat) (hk : 1100 ≤ k) :
  bottom_Add.f k a b (K : Int) l key n = some (res a b K l (ins (en a b key n) l)) := by
 have hl : l.length ≤ 1025 := by have := h.1; have := h.2.1; omega
 unfold bottom_Add.f
 rw [right_eq a b K l k hk, Option.bind_some, if_pos (yes_true h), if_neg (by omega), if_neg (by omega), Sip.sum_eq a b key (by omega) k (by omega), Option.bind_some]
 unfold wide_Of.f
 rw [Option.bind_some]
 have := add_eq a b K (by have := h.1.2; omega) l (by omega) h.2.2.2 hr (en a b key n) (en_rng (by omega) h1) k (by omega)
 simp only
 rw [show bottom_add.f k a b (K : Int) l key (Sip.sum a b key.data.toList) 0 n = _ from this, Option.bind_some]
theorem Ahead_eq (y x : S62) (p q r s : Int) : r14_Ahead.f y.f0 y.f1 p q x.f0 x.f1 r s = some (decide (cp y x < 0)) := by
 unfold r14_Ahead.f cp
 by_cases h : y.f1 = x.f1
 ·rw [if_pos h, if_neg (by omega), if_neg (by omega), Lib.toList_data, Lib.toList_data, cb_less]
 ·rw [if_neg h]
  by_cases h2 : y.f1 < x.f1
  ·rw [if_pos h2, decide_eq_true h2]; rfl
  ·rw [if_neg h2, if_pos (by omega), decide_eq_false h2]; rfl
theorem un_like {y x z : S62} (h : un y x = some z) : z.f0 = y.f0 ∧ z.f1 = y.f1 ∧ num z.f2 = num y.f2 + num x.f2 := by
 unfold un at h
 split at h
 ·injection h with h
  subst h
  exact ⟨rfl, rfl, num_mkU _⟩
 ·cases h
theorem un_rng {y x z : S62} (hy : Rng y.f2) (hx : Rng x.f2) (h : un y x = some z) : Rng z.f2 := by
 unfold un at h
 split at h
 ·rename_i ht
  injection h with h
  subst h
  have := num_nonneg hy
  have := num_nonneg hx
  exact rng_mkU (by omega) ht
 ·cases h
theorem ins_mem {x : S62} : ∀ {l m : List S62}, ins x l = some m → ∀ z ∈ m, z ∈ l ∨ z = x ∨ ∃ y ∈ l, un y x = some z
 | [], m, h, z, hz => by
  injection h with h
  subst h
  exact .inr (.inl (List.mem_singleton.1 hz))
 | y :: l, m, h, z, hz => by
  unfold ins at h
  split at h
  ·obtain ⟨m', h1, rfl⟩ := Option.map_eq_some_iff.1 h
   rcases List.mem_cons.1 hz with rfl | hz
   ·exact .inl (List.mem_cons_self ..)
   ·rcases ins_mem h1 z hz with h2 | h2 | ⟨u, h2, h3⟩
    ·exact .inl (List.mem_cons_of_mem _ h2)
    ·exact .inr (.inl h2)
    ·exact .inr (.inr ⟨u, List.mem_cons_of_mem _ h2, h3⟩)
  ·split at h
   ·obtain ⟨u, h1, rfl⟩ := Option.map_eq_some_iff.1 h
    rcases List.mem_cons.1 hz with rfl | hz
    ·exact .inr (.inr ⟨y, List.mem_cons_self .., h1⟩)
    ·exact .inl (List.mem_cons_of_mem _ hz)
   ·injection h with h
    subst h
    rcases List.mem_cons.1 hz with rfl | hz
    ·exact .inr (.inl rfl)
    ·exact .inl hz
theorem ins_length {x : S62} : ∀ {l m : List S62}, ins x l = some m → m.length ≤ l.length + 1
 | [], m, h => by
  injection h with h
  subst h
  exact Nat.le_refl _
 | y :: l, m, h => by
  unfold ins at h
  split at h
  ·obtain ⟨m', h3, rfl⟩ := Option.map_eq_some_iff.1 h
   have := ins_length h3
   simp only [List.length_cons]; omega
  ·split at h
   ·obtain ⟨u, h3, rfl⟩ := Option.map_eq_some_iff.1 h
    simp only [List.length_cons]; omega
   ·injection h with h
    subst h
    simp only [List.length_cons]; omega
theorem ins_all {x : S62} : ∀ {l : List S62}, (∀ z ∈ l, cp z x < 0) → ins x l = some (l ++ [x])
 | [], _ => rfl
 | y :: l, h => by
  unfold ins
  rw [if_pos (h y (List.mem_cons_self ..)), ins_all (fun z hz => h z (List.mem_cons_of_mem _ hz))]
  rfl
def mdl : List S62 → List S62 → Option (List S62)
 | out, [] => some out
 | out, x :: es => (ins x out).bind fun m => mdl m es
theorem rl_ins {x : S62} {l m : List S62} (hr : Rl l) (hx : Rng x.f2) (hi : ins x l = some m) : Rl m := by
 intro z hz
 rcases ins_mem hi z hz with h1 | h1 | ⟨y, h1, h2⟩
 ·exact hr z h1
 ·rw [h1]; exact hx
 ·exact un_rng (hr y h1) hx h2
theorem mdl_append : ∀ (es fs out : List S62), mdl out (es ++ fs) = (mdl out es).bind fun m => mdl m fs
 | [], _, _ => rfl
 | x :: es, fs, out => by
  rw [List.cons_append, mdl, mdl]
  cases ins x out with
  | none => rfl
  | some m => exact mdl_append es fs m
theorem mdl_srt : ∀ (l out : List S62), Srt (out ++ l) → mdl out l = some (out ++ l)
 | [], out, _ => by rw [mdl, List.append_nil]
 | x :: l, out, h => by
  have h2 : ∀ z ∈ out, cp z x < 0 := fun z hz => (List.pairwise_append.1 h).2.2 z hz x (List.mem_cons_self ..)
  rw [mdl, ins_all h2, Option.bind_some, mdl_srt l (out ++ [x]) (by rw [List.append_assoc]; exact h), List.append_assoc]
  rfl
theorem rright_l0 (a b K : Int) (l : List S62) (hn : l.length ≤ 1025) : ∀ m k i, l.length = i + m → 2 * m + 200 < k → r14_Right.l0 k (i : Int) a b K (l.map cv) = some (yes (Adj a b l i)) ∨ ∃ j, j < l.length ∧ 1000 < (G l j).f0.size ∧ (G l j).f0.size ≤ 64
 | 0, k, i, hi, hk => by
  obtain ⟨k, rfl⟩ : ∃ k', k = k' + 1 := ⟨k - 1, by omega⟩
  unfold r14_Right.l0
  left
  rw [List.length_map, if_neg (by omega), yes_true (P := Adj a b l i) (fun j h1 h2 => by omega)]
 | m + 1, k, i, hi, hk => by
  obtain ⟨k, rfl⟩ : ∃ k', k = k' + 1 + 1 := ⟨k - 2, by omega⟩
  left
  have ih := (rright_l0 a b K l hn m k (i + 1) (by omega) (by omega)).resolve_right (fun ⟨j, h1, h2, h3⟩ => by omega)
  have hi' : i < l.length := by omega
  unfold r14_Right.l0
  rw [List.length_map, if_pos (by omega), if_pos (by omega), D_rd, D_map hi']
  have no : ∀ {P : Prop}, ¬ P → (Adj a b l i → P) → (some false : Option Bool) = some (yes (Adj a b l i)) := fun h1 h2 => by rw [yes_false (fun h => h1 (h2 h))]
  have j2t : ∀ p q r s, r14_Right.j2 (k + 1) (i : Int) true a b K (l.map cv) p q r s = some false := fun p q r s => by rw [r14_Right.j2, if_pos rfl]
  by_cases h1 : ((cv (G l i)).f0.size : Int) > 64
  ·rw [if_pos h1, j2t]
   exact no (P := (G l i).f0.size ≤ 64) (by have : ((G l i).f0.size : Int) > 64 := h1; omega) (fun h => (h i (Nat.le_refl _) hi').1.1)
  ·have h1' : (G l i).f0.size ≤ 64 := by have : ¬ ((G l i).f0.size : Int) > 64 := h1; omega
   rw [if_neg h1, show (cv (G l i)).f0 = (G l i).f0 from rfl, Sip.ref_sum_eq a b (G l i).f0 (by omega) (k + 1) (by omega), Option.bind_some]
   by_cases h2 : (G l i).f1 = Sip.sum a b (G l i).f0.data.toList
   ·rw [if_pos (show (cv (G l i)).f1 = _ from h2)]
    by_cases h3 : (G l i).f2.f0 = 0 ∧ (G l i).f2.f1 = 0
    ·rw [show ((cv (G l i)).f2.f0 == 0 && (cv (G l i)).f2.f1 == 0) = true by show ((G l i).f2.f0 == 0 && (G l i).f2.f1 == 0) = true; simp [h3.1, h3.2], j2t]
     exact no (P := ¬ ((G l i).f2.f0 = 0 ∧ (G l i).f2.f1 = 0)) (fun h => h h3) (fun h => (h i (Nat.le_refl _) hi').1.2.2)
    ·rw [show ((cv (G l i)).f2.f0 == 0 && (cv (G l i)).f2.f1 == 0) = false by show ((G l i).f2.f0 == 0 && (G l i).f2.f1 == 0) = false; simpa using h3, r14_Right.j2, if_neg (by decide)]
     have hg : Ge a b (G l i) := ⟨h1', h2, h3⟩
     have step : (0 < i → cp (G l (i - 1)) (G l i) < 0) → some (yes (Adj a b l (i + 1))) = some (yes (Adj a b l i)) := fun hc => by
      congr 1
      apply yes_congr
      exact ⟨fun hh j h1 h2 => by rcases Nat.eq_or_lt_of_le h1 with e | e; exact e ▸ ⟨hg, hc⟩; exact hh j e h2, fun hh j h1 h2 => hh j (by omega) h2⟩
     rw [inc hi' (by omega), ih]
     by_cases h4 : i = 0
     ·rw [if_neg (by omega)]
      exact step (fun h => by omega)
     ·have e : wrap64 ((i : Int) - 1) = ((i - 1 : Nat) : Int) := by rw [w64 (by omega) (by omega)]; omega
      rw [if_pos (by omega), e, if_pos (by omega), if_pos (by rw [List.length_map]; omega), D_rd, D_map (by omega)]
      rw [show r14_Ahead.f (cv (G l (i - 1))).f0 (cv (G l (i - 1))).f1 (cv (G l (i - 1))).f2.f0 (cv (G l (i - 1))).f2.f1 (G l i).f0 (cv (G l i)).f1 (cv (G l i)).f2.f0 (cv (G l i)).f2.f1 = _ from Ahead_eq (G l (i - 1)) (G l i) _ _ _ _, Option.bind_some]
      by_cases h5 : cp (G l (i - 1)) (G l i) < 0
      ·rw [decide_eq_true h5, if_pos rfl]
       exact step (fun _ => h5)
      ·rw [decide_eq_false h5, if_neg (by decide)]
       exact no (P := cp (G l (i - 1)) (G l i) < 0) h5 (fun h => (h i (Nat.le_refl _) hi').2 (by omega))
   ·rw [if_neg (show ¬ (cv (G l i)).f1 = _ from h2), j2t]
    exact no (P := (G l i).f1 = H a b (G l i).f0) h2 (fun h => (h i (Nat.le_refl _) hi').1.2.1)
theorem rright_eq (a b K : Int) (l : List S62) (k : Nat) (hk : 2400 ≤ k) : r14_Right.f k a b K (l.map cv) = some (yes (Rt a b K l)) := by
 obtain ⟨k, rfl⟩ : ∃ k', k = k' + 1 := ⟨k - 1, by omega⟩
 have no : ¬ Rt a b K l → r14_Right.j0 (k + 1) true a b K (l.map cv) = some (yes (Rt a b K l)) := fun h => by rw [r14_Right.j0, if_pos rfl, yes_false h]
 unfold r14_Right.f
 by_cases h1 : K < 1
 ·rw [if_pos h1]
  exact no (fun h => by have := h.1.1; omega)
 ·rw [if_neg h1]
  by_cases h2 : K > 1024
  ·rw [if_pos h2]
   exact no (fun h => by have := h.1.2; omega)
  ·rw [if_neg h2, w64 (by omega) (by omega), List.length_map]
   by_cases h3 : (l.length : Int) > K + 1
   ·rw [decide_eq_true h3]
    exact no (fun h => by have := h.2.1; omega)
   ·rw [decide_eq_false h3, r14_Right.j0, if_neg (by decide), show (0 : Int) = ((0 : Nat) : Int) from rfl, (rright_l0 a b K l (by omega) l.length k 0 (by omega) (by omega)).resolve_right (fun ⟨j, h1, h2, h3⟩ => by omega)]
    congr 1
    apply yes_congr
    rw [rt_adj]
    exact ⟨fun h => ⟨⟨by omega, by omega⟩, by omega, h⟩, fun h => h.2.2⟩
def Hd (a b : Int) (l : List S62) : Prop := ∀ y ∈ l, y.f1 = H a b y.f0
theorem hd_ins {a b : Int} {x : S62} {l m : List S62} (h : Hd a b l) (hx : x.f1 = H a b x.f0) (hi : ins x l = some m) : Hd a b m := by
 intro z hz
 rcases ins_mem hi z hz with h1 | h1 | ⟨y, h1, h2⟩
 ·exact h z h1
 ·rw [h1]; exact hx
 ·have := un_like h2
  rw [this.2.1, this.1]
  exact h y h1
theorem radd_rng {a b c d : Int} (h1 : Rng ⟨a, b⟩) (h2 : Rng ⟨c, d⟩) : r01_Add.f a b c d = some (if num ⟨a, b⟩ + num ⟨c, d⟩ < top then ((mkU (num ⟨a, b⟩ + num ⟨c, d⟩)).f0, (mkU (num ⟨a, b⟩ + num ⟨c, d⟩)).f1, true) else (0, 0, false)) := add_rng h1 h2
theorem model_l1 (a b : Int) (ks : List ByteArray) (cs : List S50) (n : Int) (out : List S62) (i : Int) (x : S62) (hout : out.length ≤ 5000) : ∀ m k j, pos x out = j + m → m < k →
  r14_Model.l1 k ks cs n (out.map cv) i (j : Int) a b x.f0 x.f1 x.f2.f0 x.f2.f1 = r14_Model.j2 (k - m - 1) ks cs n (out.map cv) i (pos x out : Int) a b x.f0 x.f1 x.f2.f0 x.f2.f1
 | 0, k, j, hj, hk => by
  obtain ⟨k, rfl⟩ : ∃ k', k = k' + 1 := ⟨k - 1, by omega⟩
  obtain rfl : pos x out = j := by omega
  have hle := pos_le x out
  unfold r14_Model.l1
  by_cases h : pos x out < out.length
  ·rw [List.length_map, if_pos (by omega), if_pos (by omega), D_rd, D_map h]
   have hc : ¬ cp (G out (pos x out)) x < 0 := by
    have : ∀ l : List S62, pos x l < l.length → ¬ cp (l.getD (pos x l) z62) x < 0 := by
     intro l
     induction l with
     | nil => intro h; exact absurd h (Nat.not_lt_zero _)
     | cons y l ih =>
      unfold pos
      split
      ·intro h
       exact ih (by simpa using h)
      ·rename_i hy
       intro _
       exact hy
    exact this out h
   rw [show r14_Ahead.f (cv (G out (pos x out))).f0 (cv (G out (pos x out))).f1 (cv (G out (pos x out))).f2.f0 (cv (G out (pos x out))).f2.f1 x.f0 x.f1 x.f2.f0 x.f2.f1 = _ from Ahead_eq (G out (pos x out)) x _ _ _ _, Option.bind_some, decide_eq_false hc, if_neg (by decide)]
   rfl
  ·rw [List.length_map, if_neg (by omega)]
   rfl
 | m + 1, k, j, hj, hk => by
  obtain ⟨k, rfl⟩ : ∃ k', k = k' + 1 := ⟨k - 1, by omega⟩
  have hle := pos_le x out
  have ih := model_l1 a b ks cs n out i x hout m k (j + 1) (by omega) (by omega)
  unfold r14_Model.l1
  rw [List.length_map, if_pos (by omega), if_pos (by omega), D_rd, D_map (by omega)]
  rw [show r14_Ahead.f (cv (G out j)).f0 (cv (G out j)).f1 (cv (G out j)).f2.f0 (cv (G out j)).f2.f1 x.f0 x.f1 x.f2.f0 x.f2.f1 = _ from Ahead_eq (G out j) x _ _ _ _, Option.bind_some, decide_eq_true (show cp (G out j) x < 0 from pos_lo x out j (by omega)), if_pos rfl, inc (show j < out.length by omega) (by omega), ih]
  congr 1
  omega
theorem hit_key {a b : Int} {x : S62} {out : List S62} (hd : Hd a b out) (hx : x.f1 = H a b x.f0) (h : pos x out < out.length) : (((cv (G out (pos x out))).f0.toList) == x.f0.toList) = hit x out := by
 unfold hit
 rw [decide_eq_true h, Bool.true_and]
 change _ = decide (cp (G out (pos x out)) x = 0)
 have hm : G out (pos x out) ∈ out := by rw [G_get h]; exact List.getElem_mem h
 by_cases hk : (G out (pos x out)).f0 = x.f0
 ·rw [show (cv (G out (pos x out))).f0 = x.f0 from hk, beq_self_eq_true]
  exact (decide_eq_true ((cp_zero _ _).2 ⟨by show (G out (pos x out)).f1 = _; rw [hd _ hm, hx, hk], hk⟩)).symm
 ·rw [decide_eq_false (fun h0 => hk ((cp_zero _ _).1 h0).2), beq_eq_false_iff_ne]
  exact fun e => hk (list_inj e)
theorem model_j2 (a b : Int) (ks : List ByteArray) (cs : List S50) (n : Int) (out : List S62) (i : Nat) (hi : i < 5000) (x : S62) (hout : out.length ≤ 5000) (hd : Hd a b out) (hr : Rl out) (hx : x.f1 = H a b x.f0) (hxr : Rng x.f2) (k : Nat) :
  r14_Model.j2 (k + 2) ks cs n (out.map cv) (i : Int) (pos x out : Int) a b x.f0 x.f1 x.f2.f0 x.f2.f1 = match ins x out with | some m => r14_Model.l0 k ks cs n (m.map cv) ((i + 1 : Nat) : Int) a b | none => some ([], false) := by
 have hle := pos_le x out
 have e3 : ∀ c, c = hit x out → r14_Model.j3 (k + 1) ks cs n (out.map cv) (i : Int) (pos x out : Int) c a b x.f0 x.f1 x.f2.f0 x.f2.f1 = match ins x out with | some m => r14_Model.l0 k ks cs n (m.map cv) ((i + 1 : Nat) : Int) a b | none => some ([], false) := by
  rintro c rfl
  unfold r14_Model.j3
  rw [inc (show i < 5000 by exact hi) (by omega)]
  cases hh : hit x out with
  | true =>
   have hp : pos x out < out.length := by unfold hit at hh; simp at hh; exact hh.1
   rw [if_pos rfl, if_pos (by omega), if_pos (by rw [List.length_map]; omega), D_rd, D_map hp, ins_old x out hh]
   rw [show r01_Add.f (cv (G out (pos x out))).f2.f0 (cv (G out (pos x out))).f2.f1 x.f2.f0 x.f2.f1 = _ from radd_rng (rl_get hr hp) hxr, Option.bind_some]
   unfold un
   by_cases hc : num (out.getD (pos x out) z62).f2 + num x.f2 < top
   ·have hc' : num ⟨(cv (G out (pos x out))).f2.f0, (cv (G out (pos x out))).f2.f1⟩ + num ⟨x.f2.f0, x.f2.f1⟩ < top := hc
    rw [if_pos hc', if_pos hc]
    simp only
    rw [if_pos trivial, Int.toNat_natCast]
    simp only [Option.map_some]
    rw [List.map_set]
    rfl
   ·have hc' : ¬ num ⟨(cv (G out (pos x out))).f2.f0, (cv (G out (pos x out))).f2.f1⟩ + num ⟨x.f2.f0, x.f2.f1⟩ < top := hc
    rw [if_neg hc', if_neg hc]
    simp only
    rw [if_neg (by decide)]
    rfl
  | false =>
   rw [if_neg (by decide), if_pos (by omega), if_pos (by rw [List.length_map]; omega), Option.bind_some, Int.toNat_natCast, if_pos (by simp only [List.length_nil, List.length_take, List.length_map]; omega), Option.bind_some, List.nil_append, if_pos (by simp only [List.length_take, List.length_map]; omega), Option.bind_some, Option.bind_some, if_pos (by simp only [List.length_append, List.length_take, List.length_drop, List.length_map, List.length_singleton]; omega), ins_new x out hh]
   simp only [List.map_append, List.map_take, List.map_drop, List.map_cons, List.map_nil]
   rfl
 unfold r14_Model.j2
 by_cases h : pos x out < out.length
 ·rw [List.length_map, if_pos (by omega), if_pos (by omega), D_rd, D_map h]
  exact e3 _ (hit_key hd hx h)
 ·rw [List.length_map, if_neg (by omega)]
  exact e3 _ (by unfold hit; rw [decide_eq_false h]; rfl)
def ent (a b : Int) (y : S60) : S62 := ⟨y.f0, H a b y.f0, ⟨y.f2.f0, y.f2.f1⟩⟩
theorem ent_f1 (a b : Int) (y : S60) : (ent a b y).f1 = H a b (ent a b y).f0 := by
 simp only [ent]
theorem T50_rd (es : List S60) (i : Nat) (h : i < es.length) : rd_T50 (es.map (·.f2)) (i : Int) = es[i].f2 := by
 show (es.map (·.f2)).getD (i : Int).toNat z50 = _
 rw [Int.toNat_natCast, List.getD_eq_getElem?_getD, List.getElem?_map, List.getElem?_eq_getElem h]
 rfl
theorem K_rd (es : List S60) (i : Nat) (h : i < es.length) : rdOf ByteArray.empty (es.map (·.f0)) (i : Int) = es[i].f0 := by
 show (es.map (·.f0)).getD (i : Int).toNat _ = _
 rw [Int.toNat_natCast, List.getD_eq_getElem?_getD, List.getElem?_map, List.getElem?_eq_getElem h]
 rfl
set_option maxRecDepth 100000 in
theorem model_l0 (a b : Int) (es : List S60) (n : Nat) (hes : es.length ≤ 1000) (hsz : ∀ y ∈ es, y.f0.size ≤ 100 ∧ Rng y.f2) : ∀ m k i (out : List S62), es.length = i + m → out.length ≤ i → Hd a b out → Rl out → 1100 * m + 400 ≤ k →
  r14_Model.l0 k (es.map (·.f0)) (es.map (·.f2)) (n : Int) (out.map cv) (i : Int) a b = match mdl out ((es.drop i).map (ent a b)) with | some r => some ((r.take n).map cv, true) | none => some ([], false)
 | 0, k, i, out, hi, ho, hd, hr, hk => by
  obtain ⟨k, rfl⟩ : ∃ k', k = k' + 1 := ⟨k - 1, by omega⟩
  unfold r14_Model.l0
  rw [List.length_map, if_neg (by omega), List.drop_of_length_le (by omega), List.length_map]
  simp only [List.map_nil, mdl]
  by_cases h : (out.length : Int) > (n : Int)
  ·rw [if_pos h, if_pos (by omega), if_pos (by omega), Int.toNat_natCast, List.map_take]
  ·rw [if_neg h, List.take_of_length_le (by omega)]
 | m + 1, k, i, out, hi, ho, hd, hr, hk => by
  obtain ⟨k, rfl⟩ : ∃ k', k = k' + 1 := ⟨k - 1, by omega⟩
  have hi' : i < es.length := by omega
  have hy := hsz es[i] (List.getElem_mem hi')
  have hle := pos_le (ent a b es[i]) out
  unfold r14_Model.l0
  rw [List.length_map, if_pos (by omega), if_pos (by omega), K_rd es i hi', Sip.ref_sum_eq a b es[i].f0 (by omega) k (by omega), Option.bind_some, List.length_map, if_pos (by omega), T50_rd es i hi', show (0 : Int) = ((0 : Nat) : Int) from rfl]
  rw [show r14_Model.l1 k (es.map (·.f0)) (es.map (·.f2)) (n : Int) (out.map cv) (i : Int) ((0 : Nat) : Int) a b es[i].f0 (Sip.sum a b es[i].f0.data.toList) es[i].f2.f0 es[i].f2.f1 = _ from model_l1 a b (es.map (·.f0)) (es.map (·.f2)) n out i (ent a b es[i]) (by omega) (pos (ent a b es[i]) out) k 0 (by omega) (by omega)]
  obtain ⟨k2, hk2⟩ : ∃ k2, k - pos (ent a b es[i]) out - 1 = k2 + 2 := ⟨k - pos (ent a b es[i]) out - 3, by omega⟩
  rw [hk2, model_j2 a b _ _ n out i (by omega) (ent a b es[i]) (by omega) hd hr (ent_f1 a b es[i]) hy.2 k2, List.drop_eq_getElem_cons hi', List.map_cons, mdl]
  cases hc : ins (ent a b es[i]) out with
  | none => rfl
  | some r =>
   have := ins_length hc
   rw [Option.bind_some]
   exact model_l0 a b es n hes hsz m k2 (i + 1) r (by omega) (by omega) (hd_ins hd (ent_f1 a b es[i]) hc) (rl_ins hr hy.2 hc) (by omega)
theorem model_eq (a b : Int) (es : List S60) (n : Nat) (hes : es.length ≤ 1000) (hsz : ∀ y ∈ es, y.f0.size ≤ 100 ∧ Rng y.f2) (k : Nat) (hk : 1100 * es.length + 400 ≤ k) :
  r14_Model.f k a b (es.map (·.f0)) (es.map (·.f2)) (n : Int) = match mdl [] (es.map (ent a b)) with | some r => some ((r.take n).map cv, true) | none => some ([], false) := by
 unfold r14_Model.f
 exact model_l0 a b es n hes hsz es.length k 0 [] (by omega) (Nat.le_refl _) (fun _ h => by cases h) (fun _ h => by cases h) hk
theorem joined_l1 (a b : Int) (la lb : List S60) (n : Int) (hb : lb.length + la.length ≤ 1000) : ∀ m k i, lb.length = i + m → m < k →
  r14_Joined.l1 k lb n ((la ++ lb.take i).map (·.f0)) ((la ++ lb.take i).map (·.f2)) (i : Int) a b = (r14_Model.f (k - m - 1) a b ((la ++ lb).map (·.f0)) ((la ++ lb).map (·.f2)) n).bind fun t => some (t.1, t.2)
 | 0, k, i, hi, hk => by
  obtain ⟨k, rfl⟩ : ∃ k', k = k' + 1 := ⟨k - 1, by omega⟩
  unfold r14_Joined.l1
  rw [if_neg (by omega), List.take_of_length_le (by omega)]
  rfl
 | m + 1, k, i, hi, hk => by
  obtain ⟨k, rfl⟩ : ∃ k', k = k' + 1 := ⟨k - 1, by omega⟩
  have ih := joined_l1 a b la lb n hb m k (i + 1) (by omega) (by omega)
  have hi' : i < lb.length := by omega
  have e0 : (la ++ lb.take (i + 1)).map (·.f0) = (la ++ lb.take i).map (·.f0) ++ [(D lb i).f0] := by rw [List.take_add_one, List.getElem?_eq_getElem hi', D_get hi']; simp only [Option.toList_some, List.map_append, List.map_cons, List.map_nil, List.append_assoc]
  have e2 : (la ++ lb.take (i + 1)).map (·.f2) = (la ++ lb.take i).map (·.f2) ++ [⟨(D lb i).f2.f0, (D lb i).f2.f1⟩] := by rw [List.take_add_one, List.getElem?_eq_getElem hi', D_get hi']; simp only [Option.toList_some, List.map_append, List.map_cons, List.map_nil, List.append_assoc]
  unfold r14_Joined.l1
  rw [if_pos (by omega), if_pos (by omega), Option.bind_some, D_rd, if_pos (by simp only [List.length_map, List.length_append, List.length_take, List.length_singleton]; omega), Option.bind_some, if_pos (by simp only [List.length_map, List.length_append, List.length_take, List.length_singleton]; omega), inc (show i < lb.length by omega) (by omega), ← e0, ← e2, ih]
  congr 2
  omega
theorem joined_l0 (a b : Int) (la lb : List S60) (n : Int) (hb : lb.length + la.length ≤ 1000) : ∀ m k i, la.length = i + m → m + lb.length + 1 < k →
  r14_Joined.l0 k la lb n ((la.take i).map (·.f0)) ((la.take i).map (·.f2)) (i : Int) a b = (r14_Model.f (k - m - lb.length - 2) a b ((la ++ lb).map (·.f0)) ((la ++ lb).map (·.f2)) n).bind fun t => some (t.1, t.2)
 | 0, k, i, hi, hk => by
  obtain ⟨k, rfl⟩ : ∃ k', k = k' + 1 := ⟨k - 1, by omega⟩
  have h := joined_l1 a b la lb n hb lb.length k 0 (by omega) (by omega)
  simp only [List.take_zero, List.append_nil] at h
  unfold r14_Joined.l0
  rw [if_neg (by omega), List.take_of_length_le (by omega), show (0 : Int) = ((0 : Nat) : Int) from rfl, h]
  congr 2
  omega
 | m + 1, k, i, hi, hk => by
  obtain ⟨k, rfl⟩ : ∃ k', k = k' + 1 := ⟨k - 1, by omega⟩
  have ih := joined_l0 a b la lb n hb m k (i + 1) (by omega) (by omega)
  have hi' : i < la.length := by omega
  have e0 : (la.take (i + 1)).map (·.f0) = (la.take i).map (·.f0) ++ [(D la i).f0] := by rw [List.take_add_one, List.getElem?_eq_getElem hi', D_get hi']; simp only [Option.toList_some, List.map_append, List.map_cons, List.map_nil, List.append_assoc]
  have e2 : (la.take (i + 1)).map (·.f2) = (la.take i).map (·.f2) ++ [⟨(D la i).f2.f0, (D la i).f2.f1⟩] := by rw [List.take_add_one, List.getElem?_eq_getElem hi', D_get hi']; simp only [Option.toList_some, List.map_append, List.map_cons, List.map_nil, List.append_assoc]
  unfold r14_Joined.l0
  rw [if_pos (by omega), if_pos (by omega), Option.bind_some, D_rd, if_pos (by simp only [List.length_map, List.length_append, List.length_take, List.length_singleton]; omega), Option.bind_some, if_pos (by simp only [List.length_map, List.length_append, List.length_take, List.length_singleton]; omega), inc (show i < la.length by omega) (by omega), ← e0, ← e2, ih]
  congr 2
  omega
theorem joined_eq (a b : Int) (la lb : List S60) (n : Nat) (hb : lb.length + la.length ≤ 1000) (hsz : ∀ y ∈ la ++ lb, y.f0.size ≤ 100 ∧ Rng y.f2) (k : Nat) (hk : 1101 * (lb.length + la.length) + 500 ≤ k) :
  r14_Joined.f k a b la lb (n : Int) = match mdl [] ((la ++ lb).map (ent a b)) with | some r => some ((r.take n).map cv, true) | none => some ([], false) := by
 unfold r14_Joined.f
 have h := joined_l0 a b la lb n hb la.length k 0 (by omega) (by omega)
 simp only [List.take_zero, List.map_nil] at h
 rw [show (0 : Int) = ((0 : Nat) : Int) from rfl, h, model_eq a b (la ++ lb) n (by rw [List.length_append]; omega) hsz _ (by rw [List.length_append]; omega)]
 cases mdl [] ((la ++ lb).map (ent a b)) <;> rfl
theorem ent_cv {a b : Int} {l : List S62} (h : Hd a b l) : (l.map cv).map (ent a b) = l := by
 rw [List.map_map]
 conv => rhs; rw [← List.map_id l]
 apply List.map_congr_left
 intro x hx
 have := h x hx
 obtain ⟨p, q, r, s⟩ := x
 simp only at this
 rw [this]
 rfl
end Go.Proofs.Ytmfffbafldbihaa.Bo
