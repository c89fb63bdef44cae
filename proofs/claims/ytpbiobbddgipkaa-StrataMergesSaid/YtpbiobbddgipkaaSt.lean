import Derived.Test.YtpbiobbddgipkaaHx33
import Derived.Test.YtpbiobbddgipkaaSipRef
set_option linter.unusedVariables false
set_option linter.unusedSimpArgs false
namespace Go.Proofs.Ytpbiobbddgipkaa.Bo
open Go.RowKit Go.Proofs.Ytpbiobbddgipkaa.H Go.Proofs.YtpbiobbddgipkaaW.PrintWords Go.Proofs.YtpbiobbddgipkaaW.PrintMore
variable {n : ByteArray} {a b d : Int} {l la lb : List S42} {m : List S87} {K L i : Nat} {P : Prop} {y : S42} {c : S65} {x z : S87} {α : Type}
noncomputable def yes (P : Prop) : Bool := @decide P (Classical.propDecidable P)
theorem yes_iff : yes P = true ↔ P := @decide_eq_true_iff P (Classical.propDecidable P)
theorem yes_true (h : P) : yes P = true := yes_iff.2 h
theorem yes_false (h : ¬ P) : yes P = false := by
 cases hb : yes P with
 | false => rfl
 | true => exact absurd (yes_iff.1 hb) h
theorem yes_congr {Q : Prop} (h : P ↔ Q) : yes P = yes Q := by rw [propext h]
theorem w64 {x : Int} (h0 : -1000000 ≤ x) (h1 : x ≤ 1000000) : wrap64 x = x := by unfold wrap64; omega
theorem inc {n : Nat} (h : i < n) (hn : n ≤ 10000) : wrap64 ((i : Int) + 1) = ((i + 1 : Nat) : Int) := by rw [w64 (by omega) (by omega)]; omega
theorem list_inj {a b : ByteArray} (h : a.toList = b.toList) : a = b := by
 rw [Lib.toList_data, Lib.toList_data] at h
 exact ByteArray.ext (Array.toList_inj.1 h)
theorem cb_eq : ∀ a b : List UInt8, Lib.compareBytes a b = 0 ↔ a = b
 | [], [] => by simp [Lib.compareBytes]
 | [], _ :: _ => by simp [Lib.compareBytes]
 | _ :: _, [] => by simp [Lib.compareBytes]
 | a :: x, b :: y => by
  unfold Lib.compareBytes
  have ih := cb_eq x y
  split
  ·rename_i h
   constructor
   ·intro h2; omega
   ·intro h2; injection h2 with e _; subst e; exact absurd h (UInt8.lt_irrefl a)
  ·split
   ·rename_i h
    constructor
    ·intro h2; omega
    ·intro h2; injection h2 with e _; subst e; exact absurd h (UInt8.lt_irrefl a)
   ·rename_i h1 h2
    have e : a = b := by
     apply UInt8.toNat_inj.1
     rw [UInt8.lt_iff_toNat_lt] at h1 h2
     omega
    subst e
    rw [ih]
    simp
theorem cb_anti : ∀ a b : List UInt8, Lib.compareBytes b a = - Lib.compareBytes a b
 | [], [] => by simp [Lib.compareBytes]
 | [], _ :: _ => by simp [Lib.compareBytes]
 | _ :: _, [] => by simp [Lib.compareBytes]
 | a :: x, b :: y => by
  unfold Lib.compareBytes
  have ih := cb_anti x y
  by_cases h1 : a < b
  ·have h2 : ¬ b < a := fun h => by rw [UInt8.lt_iff_toNat_lt] at h h1; omega
   rw [if_neg h2, if_pos h1, if_pos h1]; rfl
  ·by_cases h2 : b < a
   ·rw [if_pos h2, if_neg h1, if_pos h2]
   ·rw [if_neg h2, if_neg h1, if_neg h1, if_neg h2, ih]
theorem cb_less : ∀ a b : List UInt8, Op.bytesLess a b = decide (Lib.compareBytes a b < 0)
 | [], [] => by simp [Lib.compareBytes, Op.bytesLess]
 | [], _ :: _ => by simp [Lib.compareBytes, Op.bytesLess]
 | _ :: _, [] => by simp [Lib.compareBytes, Op.bytesLess]
 | a :: x, b :: y => by
  unfold Lib.compareBytes Op.bytesLess
  have ih := cb_less x y
  by_cases h1 : a < b
  ·rw [if_pos h1]; simp [h1]
  ·by_cases h2 : b < a
   ·have h3 : (a == b) = false := by rw [beq_eq_false_iff_ne]; rintro rfl; exact absurd h2 h1
    rw [if_neg h1, if_pos h2]; simp [h1, h3]
   ·have h3 : a = b := by
     apply UInt8.toNat_inj.1
     rw [UInt8.lt_iff_toNat_lt] at h1 h2
     omega
    subst h3
    rw [if_neg h1, if_neg h1, ih]; simp [h1]
theorem cb_trans : ∀ a b c : List UInt8, Lib.compareBytes a b < 0 → Lib.compareBytes b c < 0 → Lib.compareBytes a c < 0
 | [], [], _ => by simp [Lib.compareBytes]
 | [], _ :: _, [] => by simp [Lib.compareBytes]
 | [], _ :: _, _ :: _ => by simp [Lib.compareBytes]
 | _ :: _, [], _ => by simp [Lib.compareBytes]
 | _ :: _, _ :: _, [] => by simp [Lib.compareBytes]
 | a :: x, b :: y, c :: z => by
  have ih := cb_trans x y z
  unfold Lib.compareBytes
  simp only [UInt8.lt_iff_toNat_lt]
  intro h1 h2
  split at h1
  ·split at h2
   ·rw [if_pos (by omega)]; decide
   ·split at h2
    ·omega
    ·rw [if_pos (by omega)]; decide
  ·split at h1
   ·omega
   ·split at h2
    ·rw [if_pos (by omega)]; decide
    ·split at h2
     ·omega
     ·rw [if_neg (by omega), if_neg (by omega)]
      exact ih h1 h2
def cp (y x : S87) : Int := if y.f1 < x.f1 then -1 else if y.f1 > x.f1 then 1 else Lib.compareBytes y.f0.data.toList x.f0.data.toList
theorem cp_zero (y x : S87) : cp y x = 0 ↔ y.f1 = x.f1 ∧ y.f0 = x.f0 := by
 unfold cp
 split
 ·exact ⟨fun h => by omega, fun h => by omega⟩
 ·split
  ·exact ⟨fun h => by omega, fun h => by omega⟩
  ·rw [cb_eq]
   exact ⟨fun h => ⟨by omega, ByteArray.ext (Array.toList_inj.1 h)⟩, fun h => by rw [h.2]⟩
theorem cp_anti (y x : S87) : cp x y = - cp y x := by
 unfold cp
 by_cases h1 : y.f1 < x.f1
 ·rw [if_neg (by omega), if_pos h1, if_pos h1]; rfl
 ·by_cases h2 : y.f1 > x.f1
  ·rw [if_pos h2, if_neg h1, if_pos h2]
  ·rw [if_neg h2, if_neg (by omega), if_neg h1, if_neg h2, cb_anti]
theorem cp_trans {y : S87} (h1 : cp x y < 0) (h2 : cp y z < 0) : cp x z < 0 := by
 unfold cp at *
 split at h1
 ·split at h2
  ·rw [if_pos (by omega)]; decide
  ·split at h2
   ·omega
   ·rw [if_pos (by omega)]; decide
 ·split at h1
  ·omega
  ·split at h2
   ·rw [if_pos (by omega)]; decide
   ·split at h2
    ·omega
    ·rw [if_neg (by omega), if_neg (by omega)]
     exact cb_trans _ _ _ h1 h2
theorem cp_irrefl (x : S87) : ¬ cp x x < 0 := by rw [(cp_zero x x).2 ⟨rfl, rfl⟩]; decide
theorem cp_like {x' : S87} (h1 : x.f1 = x'.f1) (h0 : x.f0 = x'.f0) (y : S87) : cp y x = cp y x' ∧ cp x y = cp x' y := by
 unfold cp
 rw [h1, h0]
 exact ⟨rfl, rfl⟩
theorem or_eq (k : Nat) (a b : Int) : cmp_Or_int.f (k + 3) [a, b] = some (if a = 0 then b else a) := by
 have e1 : wrap64 (0 + 1) = 1 := by unfold wrap64; omega
 have e2 : wrap64 (1 + 1) = 2 := by unfold wrap64; omega
 show cmp_Or_int.l0 (k + 3) 0 [a, b] 2 0 = _
 unfold cmp_Or_int.l0
 rw [if_pos (by decide), if_pos (by decide), if_pos (show (0 : Int) < (([a, b] : List Int).length : Int) by simp), show rd [a, b] 0 = a from rfl, e1]
 by_cases h : a = 0
 ·rw [if_pos h, if_pos h]
  unfold cmp_Or_int.l0
  rw [if_pos (by decide), if_pos (by decide), if_pos (show (1 : Int) < (([a, b] : List Int).length : Int) by simp), show rd [a, b] 1 = b from rfl, e2]
  by_cases h2 : b = 0
  ·rw [if_pos h2]
   unfold cmp_Or_int.l0
   rw [if_neg (by decide), h2]
  ·rw [if_neg h2]
 ·rw [if_neg h, if_neg h]
theorem compare_eq (y x : S87) (k : Nat) (hk : 3 ≤ k) : b_compare.f k y.f0 y.f1 y.f2.f0 y.f2.f1 x.f0 x.f1 x.f2.f0 x.f2.f1 = some (cp y x) := by
 obtain ⟨k, rfl⟩ : ∃ k', k = k' + 3 := ⟨k - 3, by omega⟩
 have hc : cmp_Compare_uint64.f y.f1 x.f1 = some (if y.f1 < x.f1 then -1 else if y.f1 > x.f1 then 1 else 0) := by
  unfold cmp_Compare_uint64.f cmp_isNaN_uint64.f
  simp only [bne_self_eq_false, Option.bind_some]
  rw [if_neg (by decide), if_neg (by decide)]
  split
  ·rfl
  ·split <;> rfl
 unfold b_compare.f
 rw [hc, Option.bind_some]
 unfold strings_Compare.f bytealg_CompareString.f
 rw [Option.bind_some, Option.bind_some, or_eq, Option.bind_some]
 unfold cp
 split
 ·rw [if_neg (by decide)]
 ·split
  ·rw [if_neg (by decide)]
  ·rw [if_pos rfl]
def Srt (l : List S87) : Prop := l.Pairwise fun y x => cp y x < 0
def pos (x : S87) : List S87 → Nat
 | [] => 0
 | y :: l => if cp y x < 0 then pos x l + 1 else 0
theorem pos_le (x : S87) : ∀ l, pos x l ≤ l.length
 | [] => Nat.le_refl _
 | y :: l => by
  have := pos_le x l
  unfold pos
  split
  ·simp only [List.length_cons]; omega
  ·omega
theorem pos_lo (x : S87) : ∀ (l : List S87) (m : Nat), m < pos x l → cp (l.getD m z87) x < 0
 | [], m, h => absurd h (Nat.not_lt_zero _)
 | y :: l, m, h => by
  unfold pos at h
  split at h
  ·rename_i hy
   cases m with
   | zero => exact hy
   | succ m => exact pos_lo x l m (by omega)
  ·exact absurd h (Nat.not_lt_zero _)
theorem srt_ge {y : S87} {l : List S87} (hs : Srt (y :: l)) (h : ¬ cp y x < 0) : ∀ z ∈ l, ¬ cp z x < 0 := fun z hz hzx => by
 have := (List.pairwise_cons.1 hs).1 z hz
 exact h (cp_trans this hzx)
theorem pos_hi (x : S87) : ∀ (l : List S87), Srt l → ∀ m, pos x l ≤ m → m < l.length → ¬ cp (l.getD m z87) x < 0
 | [], _, m, _, h => absurd h (Nat.not_lt_zero _)
 | y :: l, hs, m, h, hm => by
  unfold pos at h
  split at h
  ·obtain ⟨m, rfl⟩ : ∃ m', m = m' + 1 := ⟨m - 1, by omega⟩
   exact pos_hi x l (List.pairwise_cons.1 hs).2 m (by omega) (by simpa using hm)
  ·rename_i hy
   cases m with
   | zero => exact hy
   | succ m =>
    have hm' : m < l.length := by simpa using hm
    refine srt_ge hs hy _ ?_
    show l.getD m z87 ∈ l
    rw [List.getD_eq_getElem?_getD, List.getElem?_eq_getElem hm']
    exact List.getElem_mem hm'
theorem bsF_eq (p : α → Option Int) (l : List α) (d : α) (c : Nat → Int) (hp : ∀ m, m < l.length → p (l.getD m d) = some (c m)) (b : Nat) (hlo : ∀ m, m < b → c m < 0) (hhi : ∀ m, b ≤ m → m < l.length → ¬ c m < 0) :
  ∀ (n i j : Nat), i ≤ b → b ≤ j → j ≤ l.length → j - i ≤ n → bsF p l d n (i : Int) (j : Int) = some (b : Int)
 | 0, i, j, h1, h2, h3, h4 => by
  rw [bsF, if_neg (by omega)]
  congr 1; omega
 | n + 1, i, j, h1, h2, h3, h4 => by
  rw [bsF]
  by_cases h : i < j
  ·rw [if_pos (by omega)]
   have e : ((i : Int) + j) / 2 = ((i + j) / 2 : Nat) := by omega
   rw [e, Int.toNat_natCast, hp _ (by omega), Option.bind_some]
   by_cases hc : c ((i + j) / 2) < 0
   ·rw [if_pos hc]
    have hb : (i + j) / 2 < b := by
     rcases Nat.lt_or_ge ((i + j) / 2) b with h5 | h5
     ·exact h5
     ·exact absurd hc (hhi _ h5 (by omega))
    have := bsF_eq p l d c hp b hlo hhi n ((i + j) / 2 + 1) j (by omega) h2 h3 (by omega)
    simpa using this
   ·rw [if_neg hc]
    have hb : b ≤ (i + j) / 2 := by
     rcases Nat.lt_or_ge ((i + j) / 2) b with h5 | h5
     ·exact absurd (hlo _ h5) hc
     ·exact h5
    exact bsF_eq p l d c hp b hlo hhi n i ((i + j) / 2) h1 hb (by omega) (by omega)
  ·rw [if_neg (by omega)]
   congr 1; omega
def hit (x : S87) (l : List S87) : Bool := decide (pos x l < l.length) && decide (cp (l.getD (pos x l) z87) x = 0)
theorem bsT_eq (x : S87) (l : List S87) (hs : Srt l) (k : Nat) (hk : 3 ≤ k) :
  bsT (fun y => b_compare.f k y.f0 y.f1 y.f2.f0 y.f2.f1 x.f0 x.f1 x.f2.f0 x.f2.f1) l z87 = some ((pos x l : Int), hit x l) := by
 unfold bsT
 have h := bsF_eq (fun y => b_compare.f k y.f0 y.f1 y.f2.f0 y.f2.f1 x.f0 x.f1 x.f2.f0 x.f2.f1) l z87 (fun m => cp (l.getD m z87) x) (fun m _ => compare_eq _ x k hk) (pos x l) (pos_lo x l) (pos_hi x l hs) l.length 0 l.length (Nat.zero_le _) (pos_le x l) (Nat.le_refl _) (by omega)
 rw [show ((0 : Nat) : Int) = 0 from rfl] at h
 rw [h, Option.bind_some]
 unfold hit
 by_cases hp : pos x l < l.length
 ·rw [if_pos (by omega), Int.toNat_natCast]
  simp only
  rw [compare_eq _ x k hk, Option.bind_some]
  simp [hp]
 ·rw [if_neg (by omega)]
  simp [hp]
def num (c : S65) : Int := c.f0 * 18446744073709551616 + c.f1
def Rng (c : S65) : Prop := (0 ≤ c.f0 ∧ c.f0 < 18446744073709551616) ∧ (0 ≤ c.f1 ∧ c.f1 < 18446744073709551616)
def mkU (n : Int) : S65 := ⟨n / 18446744073709551616, n % 18446744073709551616⟩
def top : Int := 340282366920938463463374607431768211456
theorem num_mkU (n : Int) : num (mkU n) = n := by unfold num mkU; simp only; omega
theorem rng_mkU {n : Int} (h0 : 0 ≤ n) (h1 : n < top) : Rng (mkU n) := by unfold Rng mkU; unfold top at h1; simp only; omega
theorem num_nonneg (h : Rng c) : 0 ≤ num c := by obtain ⟨⟨h1, h2⟩, h3, h4⟩ := h; unfold num; omega
theorem num_zero (h : Rng c) : num c = 0 ↔ c.f0 = 0 ∧ c.f1 = 0 := by
 obtain ⟨⟨h1, h2⟩, h3, h4⟩ := h
 unfold num
 constructor
 ·intro h; omega
 ·rintro ⟨h5, h6⟩; rw [h5, h6]; rfl
theorem add_rng {c : Int} (h1 : Rng ⟨a, b⟩) (h2 : Rng ⟨c, d⟩) : wide_Add.f a b c d = some (if num ⟨a, b⟩ + num ⟨c, d⟩ < top then ((mkU (num ⟨a, b⟩ + num ⟨c, d⟩)).f0, (mkU (num ⟨a, b⟩ + num ⟨c, d⟩)).f1, true) else (0, 0, false)) := by
 obtain ⟨⟨p1, p2⟩, p3, p4⟩ := h1
 obtain ⟨⟨q1, q2⟩, q3, q4⟩ := h2
 simp only at p1 p2 p3 p4 q1 q2 q3 q4
 unfold wide_Add.f
 rw [if_pos ⟨p1, p2, p3, p4, q1, q2, q3, q4⟩]
 unfold num mkU top
 simp only
 by_cases h : a + c + (b + d) / 18446744073709551616 < 18446744073709551616
 ·rw [if_pos h, if_pos (by omega)]
  congr 2
  ·omega
  ·congr 1
   omega
 ·rw [if_neg h, if_neg (by omega)]
def un (y x : S87) : Option S87 := if num y.f2 + num x.f2 < top then some ⟨y.f0, y.f1, mkU (num y.f2 + num x.f2)⟩ else none
def ins (x : S87) : List S87 → Option (List S87)
 | [] => some [x]
 | y :: l => if cp y x < 0 then (ins x l).map (y :: ·) else if cp y x = 0 then (un y x).map (· :: l) else some (x :: y :: l)
theorem ins_new (x : S87) : ∀ l : List S87, hit x l = false → ins x l = some (l.take (pos x l) ++ [x] ++ l.drop (pos x l))
 | [], _ => rfl
 | y :: l, h => by
  unfold ins
  unfold hit pos at h
  unfold pos
  split
  ·rename_i hy
   rw [if_pos hy] at h
   have ih := ins_new x l (by unfold hit; simpa using h)
   rw [ih]
   rfl
  ·rename_i hy
   rw [if_neg hy] at h
   have h0 : ¬ cp y x = 0 := by intro h0; simp [h0] at h
   rw [if_neg h0]
   rfl
theorem ins_old (x : S87) : ∀ l : List S87, hit x l = true → ins x l = (un (l.getD (pos x l) z87) x).map fun z => l.set (pos x l) z
 | [], h => by unfold hit at h; simp at h
 | y :: l, h => by
  unfold ins
  unfold hit pos at h
  unfold pos
  split
  ·rename_i hy
   rw [if_pos hy] at h
   have ih := ins_old x l (by unfold hit; simpa using h)
   rw [ih, Option.map_map]
   rfl
  ·rename_i hy
   rw [if_neg hy] at h
   have h0 : cp y x = 0 := by simpa using h
   rw [if_pos h0]
   rfl
def Rl (l : List S87) : Prop := ∀ y ∈ l, Rng y.f2
theorem rl_get {l : List S87} (h : Rl l) {m : Nat} (hm : m < l.length) : Rng (l.getD m z87).f2 := by
 rw [List.getD_eq_getElem?_getD, List.getElem?_eq_getElem hm]
 exact h _ (List.getElem_mem hm)
theorem cut_eq (a b : Int) (K : Nat) (hK : K ≤ 1024) (m : List S87) : b_add.cut a b (K : Int) m = some (a, b, (K : Int), m.take (K + 1), 0) := by
 unfold b_add.cut
 rw [w64 (by omega) (by omega), if_pos (by omega)]
 congr 4
 congr 1
 rcases Nat.le_total m.length (K + 1) with h | h
 ·rw [show (min (m.length : Int) ((K : Int) + 1)).toNat = m.length by omega, List.take_of_length_le (Nat.le_refl _), List.take_of_length_le h]
 ·rw [show (min (m.length : Int) ((K : Int) + 1)).toNat = K + 1 by omega]
def res (a b : Int) (K : Nat) (l : List S87) : Option (List S87) → Int × Int × Int × List S87 × Int
 | some m => (a, b, (K : Int), m.take (K + 1), 0)
 | none => (a, b, (K : Int), l, 12)
theorem add_eq (a b : Int) (K : Nat) (hK : K ≤ 1024) (l : List S87) (hl : l.length < 1000000) (hs : Srt l) (hr : Rl l) (x : S87) (hx : Rng x.f2) (k : Nat) (hk : 3 ≤ k) :
  b_add.f k a b (K : Int) l x.f0 x.f1 x.f2.f0 x.f2.f1 = some (res a b K l (ins x l)) := by
 unfold b_add.f
 rw [if_pos hl, bsT_eq x l hs k hk, Option.bind_some]
 have hle := pos_le x l
 cases hh : hit x l with
 | false =>
  simp only
  rw [if_neg (by decide), if_pos (by omega), Int.toNat_natCast, cut_eq a b K hK, ins_new x l hh]
  rfl
 | true =>
  have hp : pos x l < l.length := by unfold hit at hh; simp at hh; exact hh.1
  simp only
  rw [if_pos trivial, if_pos (by omega)]
  have e : rd_T87 l (pos x l : Int) = l.getD (pos x l) z87 := by show l.getD (pos x l : Int).toNat z87 = _; rw [Int.toNat_natCast]
  rw [e, add_rng (rl_get hr hp) hx, Option.bind_some, ins_old x l hh]
  unfold un
  by_cases hc : num (l.getD (pos x l) z87).f2 + num x.f2 < top
  ·rw [if_pos hc, if_pos hc]
   simp only
   rw [if_pos trivial, Int.toNat_natCast, cut_eq a b K hK]
   rfl
  ·rw [if_neg hc, if_neg hc]
   simp only
   rw [if_neg (by decide)]
   rfl
def G (l : List S87) (i : Nat) : S87 := l.getD i z87
theorem G_rd (l : List S87) (i : Nat) : rd_T87 l (i : Int) = G l i := by show l.getD (i : Int).toNat z87 = _; rw [Int.toNat_natCast]; rfl
theorem G_get {l : List S87} (h : i < l.length) : G l i = l[i] := by unfold G; rw [List.getD_eq_getElem?_getD, List.getElem?_eq_getElem h]; rfl
def H (a b : Int) (key : ByteArray) : Int := Sip.sum a b key.data.toList
def Ge (a b : Int) (x : S87) : Prop := x.f0.size ≤ 64 ∧ x.f1 = H a b x.f0 ∧ ¬ (x.f2.f0 = 0 ∧ x.f2.f1 = 0)
def Adj (a b : Int) (l : List S87) (i : Nat) : Prop := ∀ j, i ≤ j → j < l.length → Ge a b (G l j) ∧ (0 < j → cp (G l (j - 1)) (G l j) < 0)
theorem right_l0 (a b K : Int) (l : List S87) (hn : l.length ≤ 1025) : ∀ m k i, l.length = i + m → m + 30 < k → b_Right.l0 k l (l.length : Int) (i : Int) a b K l = some (yes (Adj a b l i))
 | 0, k, i, hi, hk => by
  obtain ⟨k, rfl⟩ : ∃ k', k = k' + 1 := ⟨k - 1, by omega⟩
  unfold b_Right.l0
  rw [if_neg (by omega), yes_true (P := Adj a b l i) (fun j h1 h2 => by omega)]
 | m + 1, k, i, hi, hk => by
  obtain ⟨k, rfl⟩ : ∃ k', k = k' + 1 := ⟨k - 1, by omega⟩
  have ih := right_l0 a b K l hn m k (i + 1) (by omega) (by omega)
  have hi' : i < l.length := by omega
  unfold b_Right.l0
  rw [if_pos (by omega), if_pos (by omega), if_pos (by omega), G_rd]
  have no : ∀ {P : Prop}, ¬ P → (Adj a b l i → P) → (some false : Option Bool) = some (yes (Adj a b l i)) := fun h1 h2 => by rw [yes_false (fun h => h1 (h2 h))]
  by_cases h1 : ((G l i).f0.size : Int) > 64
  ·rw [if_pos h1]
   exact no (P := (G l i).f0.size ≤ 64) (by omega) (fun h => (h i (Nat.le_refl _) hi').1.1)
  ·rw [if_neg h1, Sip.sum_eq a b (G l i).f0 (by omega) k (by omega), Option.bind_some]
   by_cases h2 : (G l i).f1 = Sip.sum a b (G l i).f0.data.toList
   ·rw [if_pos h2]
    by_cases h3 : (G l i).f2.f0 = 0 ∧ (G l i).f2.f1 = 0
    ·rw [if_pos (by simp [h3.1, h3.2])]
     exact no (P := ¬ ((G l i).f2.f0 = 0 ∧ (G l i).f2.f1 = 0)) (fun h => h h3) (fun h => (h i (Nat.le_refl _) hi').1.2.2)
    ·rw [if_neg (by simpa using h3)]
     have hg : Ge a b (G l i) := ⟨by omega, h2, h3⟩
     have step : (0 < i → cp (G l (i - 1)) (G l i) < 0) → some (yes (Adj a b l (i + 1))) = some (yes (Adj a b l i)) := fun hc => by
      congr 1
      apply yes_congr
      exact ⟨fun hh j h1 h2 => by rcases Nat.eq_or_lt_of_le h1 with e | e; exact e ▸ ⟨hg, hc⟩; exact hh j e h2, fun hh j h1 h2 => hh j (by omega) h2⟩
     rw [inc hi' (by omega), ih]
     by_cases h4 : i = 0
     ·rw [if_neg (by omega)]
      exact step (fun h => by omega)
     ·have e : wrap64 ((i : Int) - 1) = ((i - 1 : Nat) : Int) := by rw [w64 (by omega) (by omega)]; omega
      rw [if_pos (by omega), e, if_pos (by omega), if_pos (by omega), G_rd, compare_eq _ _ k (by omega), Option.bind_some]
      by_cases h5 : cp (G l (i - 1)) (G l i) ≥ 0
      ·rw [if_pos h5]
       exact no (P := cp (G l (i - 1)) (G l i) < 0) (by omega) (fun h => (h i (Nat.le_refl _) hi').2 (by omega))
      ·rw [if_neg h5]
       exact step (fun _ => by omega)
   ·rw [if_neg h2]
    exact no (P := (G l i).f1 = H a b (G l i).f0) h2 (fun h => (h i (Nat.le_refl _) hi').1.2.1)
def Rt (a b K : Int) (l : List S87) : Prop := (1 ≤ K ∧ K ≤ 1024) ∧ (l.length : Int) ≤ K + 1 ∧ (∀ x ∈ l, Ge a b x) ∧ Srt l
theorem adj_srt : ∀ (l : List S87), (∀ j, 0 < j → j < l.length → cp (G l (j - 1)) (G l j) < 0) → Srt l
 | [], _ => List.Pairwise.nil
 | y :: l, h => by
  have ih := adj_srt l (fun j h1 h2 => by
   have := h (j + 1) (by omega) (by simpa using h2)
   rw [Nat.add_sub_cancel] at this
   obtain ⟨j, rfl⟩ : ∃ j', j = j' + 1 := ⟨j - 1, by omega⟩
   exact this)
  refine List.pairwise_cons.2 ⟨fun z hz => ?_, ih⟩
  cases l with
  | nil => cases hz
  | cons u l =>
   have h1 : cp y u < 0 := h 1 (by omega) (by simp)
   rcases List.mem_cons.1 hz with rfl | hz
   ·exact h1
   ·exact cp_trans h1 ((List.pairwise_cons.1 ih).1 z hz)
theorem rt_adj (a b : Int) (l : List S87) : Adj a b l 0 ↔ (∀ x ∈ l, Ge a b x) ∧ Srt l := by
 constructor
 ·intro h
  refine ⟨fun x hx => ?_, adj_srt l (fun j h1 h2 => (h j (Nat.zero_le _) h2).2 h1)⟩
  obtain ⟨j, hj, rfl⟩ := List.getElem_of_mem hx
  rw [← G_get hj]
  exact (h j (Nat.zero_le _) hj).1
 ·rintro ⟨h1, h2⟩ j _ hj
  refine ⟨by rw [G_get hj]; exact h1 _ (List.getElem_mem hj), fun h0 => ?_⟩
  rw [G_get hj, G_get (by omega)]
  exact List.pairwise_iff_getElem.1 h2 (j - 1) j (by omega) hj (by omega)
theorem right_eq (a b K : Int) (l : List S87) (k : Nat) (hk : 1100 ≤ k) : b_Right.f k a b K l = some (yes (Rt a b K l)) := by
 obtain ⟨k, rfl⟩ : ∃ k', k = k' + 1 := ⟨k - 1, by omega⟩
 have no : ¬ Rt a b K l → b_Right.j0 (k + 1) true a b K l = some (yes (Rt a b K l)) := fun h => by rw [b_Right.j0, if_pos rfl, yes_false h]
 unfold b_Right.f
 by_cases h1 : K < 1
 ·rw [if_pos h1]
  exact no (fun h => by have := h.1.1; omega)
 ·rw [if_neg h1]
  by_cases h2 : K > 1024
  ·rw [if_pos h2]
   exact no (fun h => by have := h.1.2; omega)
  ·rw [if_neg h2, w64 (by omega) (by omega)]
   by_cases h3 : (l.length : Int) > K + 1
   ·rw [decide_eq_true h3]
    exact no (fun h => by have := h.2.1; omega)
   ·rw [decide_eq_false h3, b_Right.j0, if_neg (by decide), show (0 : Int) = ((0 : Nat) : Int) from rfl, right_l0 a b K l (by omega) l.length k 0 (by omega) (by omega)]
    congr 1
    apply yes_congr
    rw [rt_adj]
    exact ⟨fun h => ⟨⟨by omega, by omega⟩, by omega, h⟩, fun h => h.2.2⟩
def en (a b : Int) (key : ByteArray) (n : Int) : S87 := ⟨key, H a b key, ⟨0, n⟩⟩
theorem un_like {y : S87} (h : un y x = some z) : z.f0 = y.f0 ∧ z.f1 = y.f1 ∧ num z.f2 = num y.f2 + num x.f2 := by
 unfold un at h
 split at h
 ·injection h with h
  subst h
  exact ⟨rfl, rfl, num_mkU _⟩
 ·cases h
theorem un_rng {y : S87} (hy : Rng y.f2) (hx : Rng x.f2) (h : un y x = some z) : Rng z.f2 := by
 unfold un at h
 split at h
 ·rename_i ht
  injection h with h
  subst h
  have := num_nonneg hy
  have := num_nonneg hx
  exact rng_mkU (by omega) ht
 ·cases h
theorem ins_mem : ∀ {l m : List S87}, ins x l = some m → ∀ z ∈ m, z ∈ l ∨ z = x ∨ ∃ y ∈ l, un y x = some z
 | [], m, h, z, hz => by
  injection h with h
  subst h
  exact .inr (.inl (List.mem_singleton.1 hz))
 | y :: l, m, h, z, hz => by
  unfold ins at h
  split at h
  ·obtain ⟨m', h1, rfl⟩ := Option.map_eq_some_iff.1 h
   rcases List.mem_cons.1 hz with rfl | hz
   ·exact .inl (List.mem_cons_self ..)
   ·rcases ins_mem h1 z hz with h2 | h2 | ⟨u, h2, h3⟩
    ·exact .inl (List.mem_cons_of_mem _ h2)
    ·exact .inr (.inl h2)
    ·exact .inr (.inr ⟨u, List.mem_cons_of_mem _ h2, h3⟩)
  ·split at h
   ·obtain ⟨u, h1, rfl⟩ := Option.map_eq_some_iff.1 h
    rcases List.mem_cons.1 hz with rfl | hz
    ·exact .inr (.inr ⟨y, List.mem_cons_self .., h1⟩)
    ·exact .inl (List.mem_cons_of_mem _ hz)
   ·injection h with h
    subst h
    rcases List.mem_cons.1 hz with rfl | hz
    ·exact .inr (.inl rfl)
    ·exact .inl hz
theorem ins_srt : ∀ {l m : List S87}, Srt l → ins x l = some m → Srt m
 | [], m, _, h => by
  injection h with h
  subst h
  exact List.pairwise_singleton _ _
 | y :: l, m, hs, h => by
  obtain ⟨h1, h2⟩ := List.pairwise_cons.1 hs
  unfold ins at h
  split at h
  ·rename_i hy
   obtain ⟨m', h3, rfl⟩ := Option.map_eq_some_iff.1 h
   refine List.pairwise_cons.2 ⟨fun z hz => ?_, ins_srt h2 h3⟩
   rcases ins_mem h3 z hz with h4 | h4 | ⟨u, h4, h5⟩
   ·exact h1 z h4
   ·rw [h4]; exact hy
   ·have := un_like h5
    rw [(cp_like this.2.1 this.1 y).1]
    exact h1 u h4
  ·rename_i hy
   split at h
   ·obtain ⟨u, h3, rfl⟩ := Option.map_eq_some_iff.1 h
    have := un_like h3
    exact List.pairwise_cons.2 ⟨fun z hz => by rw [(cp_like this.2.1 this.1 z).2]; exact h1 z hz, h2⟩
   ·rename_i hy0
    injection h with h
    subst h
    have hxy : cp x y < 0 := by rw [cp_anti]; omega
    refine List.pairwise_cons.2 ⟨fun z hz => ?_, hs⟩
    rcases List.mem_cons.1 hz with rfl | hz
    ·exact hxy
    ·exact cp_trans hxy (h1 z hz)
theorem ins_length : ∀ {l m : List S87}, ins x l = some m → m.length ≤ l.length + 1
 | [], m, h => by
  injection h with h
  subst h
  exact Nat.le_refl _
 | y :: l, m, h => by
  unfold ins at h
  split at h
  ·obtain ⟨m', h3, rfl⟩ := Option.map_eq_some_iff.1 h
   have := ins_length h3
   simp only [List.length_cons]; omega
  ·split at h
   ·obtain ⟨u, h3, rfl⟩ := Option.map_eq_some_iff.1 h
    simp only [List.length_cons]; omega
   ·injection h with h
    subst h
    simp only [List.length_cons]; omega
theorem ins_ge {l : List S87} (hg : ∀ y ∈ l, Ge a b y) (hr : Rl l) (hx : Ge a b x) (hxr : Rng x.f2) (h : ins x l = some m) : (∀ z ∈ m, Ge a b z) ∧ Rl m := by
 constructor
 ·intro z hz
  rcases ins_mem h z hz with h1 | h1 | ⟨y, h1, h2⟩
  ·exact hg z h1
  ·rw [h1]; exact hx
  ·obtain ⟨e0, e1, e2⟩ := un_like h2
   have gy := hg y h1
   refine ⟨by rw [e0]; exact gy.1, by rw [e1, e0]; exact gy.2.1, fun hh => ?_⟩
   have hz0 := (num_zero (un_rng (hr y h1) hxr h2)).2 hh
   have n1 := num_nonneg (hr y h1)
   have n2 := num_nonneg hxr
   have : num y.f2 = 0 := by omega
   exact gy.2.2 ((num_zero (hr y h1)).1 this)
 ·intro z hz
  rcases ins_mem h z hz with h1 | h1 | ⟨y, h1, h2⟩
  ·exact hr z h1
  ·rw [h1]; exact hxr
  ·exact un_rng (hr y h1) hxr h2
theorem awake_eq (k : Nat) (hk : 60 ≤ k) : l21_awake.f k = some true := by
 have h := l21_awake.up (k - 60) 60 l21_awake.atK
 rwa [show 60 + (k - 60) = k by omega] at h
theorem awake_bind (k : Nat) (hk : 60 ≤ k) : ((l21_awake.f k).bind fun t => some t) = some true := by rw [awake_eq k hk]; rfl
def kk (n : ByteArray) (u : Int) : S87 := ⟨n, u, ⟨0, 0⟩⟩
def ky (x : S42) : S87 := kk x.f0 x.f1
def insK (x : S87) : List S87 → List S87
 | [] => [x]
 | y :: l => if cp y x < 0 then y :: insK x l else if cp y x = 0 then x :: l else x :: y :: l
def insS (x : S42) : List S42 → List S42
 | [] => [x]
 | y :: l => if cp (ky y) (ky x) < 0 then y :: insS x l else if cp (ky y) (ky x) = 0 then x :: l else x :: y :: l
theorem insS_map (x : S42) : ∀ l, (insS x l).map ky = insK (ky x) (l.map ky)
 | [] => rfl
 | y :: l => by
  unfold insS
  rw [List.map_cons]
  unfold insK
  split
  ·rw [List.map_cons, insS_map x l]
  ·split <;> rfl
theorem insK_mem : ∀ {l : List S87} {z}, z ∈ insK x l → z ∈ l ∨ z = x
 | [], z, h => .inr (List.mem_singleton.1 h)
 | y :: l, z, h => by
  unfold insK at h
  split at h
  ·rcases List.mem_cons.1 h with rfl | h
   ·exact .inl (List.mem_cons_self ..)
   ·exact (insK_mem h).imp (List.mem_cons_of_mem _) id
  ·split at h
   ·rcases List.mem_cons.1 h with h | h
    ·exact .inr h
    ·exact .inl (List.mem_cons_of_mem _ h)
   ·rcases List.mem_cons.1 h with h | h
    ·exact .inr h
    ·exact .inl h
theorem insS_mem {x : S42} : ∀ {l : List S42} {z}, z ∈ insS x l → z ∈ l ∨ z = x
 | [], z, h => .inr (List.mem_singleton.1 h)
 | y :: l, z, h => by
  unfold insS at h
  split at h
  ·rcases List.mem_cons.1 h with rfl | h
   ·exact .inl (List.mem_cons_self ..)
   ·exact (insS_mem h).imp (List.mem_cons_of_mem _) id
  ·split at h
   ·rcases List.mem_cons.1 h with h | h
    ·exact .inr h
    ·exact .inl (List.mem_cons_of_mem _ h)
   ·rcases List.mem_cons.1 h with h | h
    ·exact .inr h
    ·exact .inl h
theorem insK_srt : ∀ {l : List S87}, Srt l → Srt (insK x l)
 | [], _ => List.pairwise_singleton _ _
 | y :: l, hs => by
  obtain ⟨h1, h2⟩ := List.pairwise_cons.1 hs
  unfold insK
  split
  ·rename_i hy
   refine List.pairwise_cons.2 ⟨fun z hz => ?_, insK_srt h2⟩
   rcases insK_mem hz with h | h
   ·exact h1 z h
   ·rw [h]; exact hy
  ·rename_i hy
   split
   ·rename_i h0
    obtain ⟨e1, e0⟩ := (cp_zero y x).1 h0
    exact List.pairwise_cons.2 ⟨fun z hz => by rw [← (cp_like e1 e0 z).2]; exact h1 z hz, h2⟩
   ·rename_i hy0
    have hxy : cp x y < 0 := by rw [cp_anti]; omega
    refine List.pairwise_cons.2 ⟨fun z hz => ?_, hs⟩
    rcases List.mem_cons.1 hz with rfl | hz
    ·exact hxy
    ·exact cp_trans hxy (h1 z hz)
theorem insS_new (x : S42) : ∀ l : List S42, hit (ky x) (l.map ky) = false → insS x l = l.take (pos (ky x) (l.map ky)) ++ [x] ++ l.drop (pos (ky x) (l.map ky))
 | [], _ => rfl
 | y :: l, h => by
  unfold insS
  rw [List.map_cons] at h ⊢
  unfold hit pos at h
  unfold pos
  split
  ·rename_i hy
   rw [if_pos hy] at h
   rw [insS_new x l (by unfold hit; simpa using h)]
   rfl
  ·rename_i hy
   rw [if_neg hy] at h
   have h0 : ¬ cp (ky y) (ky x) = 0 := by intro h0; simp [h0] at h
   rw [if_neg h0]
   rfl
theorem insS_old (x : S42) : ∀ l : List S42, hit (ky x) (l.map ky) = true → insS x l = l.set (pos (ky x) (l.map ky)) x
 | [], h => by unfold hit at h; simp at h
 | y :: l, h => by
  unfold insS
  rw [List.map_cons] at h ⊢
  unfold hit pos at h
  unfold pos
  split
  ·rename_i hy
   rw [if_pos hy] at h
   rw [insS_old x l (by unfold hit; simpa using h)]
   rfl
  ·rename_i hy
   rw [if_neg hy] at h
   have h0 : cp (ky y) (ky x) = 0 := by simpa using h
   rw [if_pos h0]
   rfl
theorem ky_get {m : Nat} (h : m < l.length) : (l.map ky).getD m z87 = ky (l.getD m z42) := by
 rw [List.getD_eq_getElem?_getD, List.getD_eq_getElem?_getD, List.getElem?_map, List.getElem?_eq_getElem h]; rfl
theorem scompare_eq (k : Nat) (hk : 3 ≤ k) (n m : ByteArray) (u v p q r p' q' r' : Int) (l l' : List S87) : s_compare.f k n u p q r l m v p' q' r' l' = some (cp (kk n u) (kk m v)) :=
 compare_eq (kk n u) (kk m v) k hk
theorem bsL_eq (l : List S42) (hl : l.length < 1000000) (hs : Srt (l.map ky)) (k : Nat) (hk : 3 ≤ k) (n : ByteArray) (u p q r : Int) (l1 : List S87) :
  s_Label_42.f k l n u p q r l1 = some ((pos (kk n u) (l.map ky) : Int), hit (kk n u) (l.map ky)) := by
 unfold s_Label_42.f
 rw [if_pos hl]
 unfold bsT
 have hp : ∀ y : S42, strataP k n u p q r l1 y = some (cp (ky y) (kk n u)) := fun y => scompare_eq k hk _ _ _ _ _ _ _ _ _ _ _ _
 have hle := pos_le (kk n u) (l.map ky)
 have hlm : (l.map ky).length = l.length := List.length_map ..
 have h := bsF_eq (strataP k n u p q r l1) l z42 (fun m => cp ((l.map ky).getD m z87) (kk n u)) (fun m hm => by rw [hp, ky_get hm]) (pos (kk n u) (l.map ky)) (pos_lo _ _) (fun m h1 h2 => pos_hi _ _ hs m h1 (by omega)) l.length 0 l.length (Nat.zero_le _) (by omega) (Nat.le_refl _) (by omega)
 rw [show ((0 : Nat) : Int) = 0 from rfl] at h
 rw [h, Option.bind_some]
 unfold hit
 by_cases hq : pos (kk n u) (l.map ky) < l.length
 ·rw [if_pos (by omega), Int.toNat_natCast, hp, Option.bind_some, ← ky_get hq]
  simp [hq]
 ·rw [if_neg (by omega)]
  simp [hq]
def Lb (a b K : Int) (x : S42) : Prop := x.f0.size ≤ 64 ∧ x.f1 = H a b x.f0 ∧ Rt x.f2.f0.f0 x.f2.f0.f1 x.f2.f1 x.f2.f2 ∧ (x.f2.f0.f0 = a ∧ x.f2.f0.f1 = b) ∧ x.f2.f1 = K ∧ 0 < x.f2.f2.length
def St (a b L K : Int) (l : List S42) : Prop := (1 ≤ L ∧ L ≤ 64) ∧ (1 ≤ K ∧ K ≤ 1024) ∧ (l.length : Int) ≤ L ∧ (∀ x ∈ l, Lb a b K x) ∧ Srt (l.map ky)
theorem sound_eq (a b L K : Int) (l : List S42) (x : S42) (k : Nat) (hk : 1100 ≤ k) : s_sound.f k a b L K l x.f0 x.f1 x.f2.f0.f0 x.f2.f0.f1 x.f2.f1 x.f2.f2 = some (yes (Lb a b K x)) := by
 have no : ∀ {P : Prop}, ¬ P → (Lb a b K x → P) → (some false : Option Bool) = some (yes (Lb a b K x)) := fun h1 h2 => by rw [yes_false (fun h => h1 (h2 h))]
 unfold s_sound.f
 by_cases h1 : (x.f0.size : Int) ≤ 64
 ·rw [if_pos h1, Sip.sum_eq a b x.f0 (by omega) k (by omega), Option.bind_some]
  by_cases h2 : x.f1 = Sip.sum a b x.f0.data.toList
  ·rw [if_pos h2, right_eq _ _ _ _ k hk, Option.bind_some]
   by_cases h3 : Rt x.f2.f0.f0 x.f2.f0.f1 x.f2.f1 x.f2.f2
   ·rw [if_pos (yes_true h3)]
    by_cases h4 : x.f2.f0.f0 = a ∧ x.f2.f0.f1 = b
    ·rw [if_pos (by simp [h4.1, h4.2])]
     by_cases h5 : x.f2.f1 = K
     ·rw [if_pos h5]
      by_cases h6 : 0 < x.f2.f2.length
      ·rw [decide_eq_true (by omega), yes_true ⟨by omega, h2, h3, h4, h5, h6⟩]
      ·rw [decide_eq_false (by omega), yes_false (fun h => h6 h.2.2.2.2.2)]
     ·rw [if_neg h5]; exact no h5 (fun h => h.2.2.2.2.1)
    ·rw [if_neg (by simpa using h4)]; exact no h4 (fun h => h.2.2.2.1)
   ·rw [if_neg (by rw [yes_false h3]; decide)]; exact no h3 (fun h => h.2.2.1)
  ·rw [if_neg h2]; exact no h2 (fun h => h.2.1)
 ·rw [if_neg h1]; exact no (P := x.f0.size ≤ 64) (by omega) (fun h => h.1)
def GL (l : List S42) (i : Nat) : S42 := l.getD i z42
theorem GL_rd (l : List S42) (i : Nat) : rd_T42 l (i : Int) = GL l i := by show l.getD (i : Int).toNat z42 = _; rw [Int.toNat_natCast]; rfl
theorem GL_get (h : i < l.length) : GL l i = l[i] := by unfold GL; rw [List.getD_eq_getElem?_getD, List.getElem?_eq_getElem h]; rfl
theorem GL_ky (h : i < l.length) : ky (GL l i) = G (l.map ky) i := (ky_get h).symm
def SAdj (a b K : Int) (l : List S42) (i : Nat) : Prop := ∀ j, i ≤ j → j < l.length → Lb a b K (GL l j) ∧ (0 < j → cp (ky (GL l (j - 1))) (ky (GL l j)) < 0)
theorem sright_l0 (a b L K : Int) (l : List S42) (hn : l.length ≤ 64) : ∀ m k i, l.length = i + m → m + 1101 < k → s_Right.l0 k l (l.length : Int) (i : Int) a b L K l = some (yes (SAdj a b K l i))
 | 0, k, i, hi, hk => by
  obtain ⟨k, rfl⟩ : ∃ k', k = k' + 1 := ⟨k - 1, by omega⟩
  unfold s_Right.l0
  rw [if_neg (by omega), yes_true (P := SAdj a b K l i) (fun j h1 h2 => by omega)]
 | m + 1, k, i, hi, hk => by
  obtain ⟨k, rfl⟩ : ∃ k', k = k' + 1 := ⟨k - 1, by omega⟩
  have ih := sright_l0 a b L K l hn m k (i + 1) (by omega) (by omega)
  have hi' : i < l.length := by omega
  have no : ∀ {P : Prop}, ¬ P → (SAdj a b K l i → P) → (some false : Option Bool) = some (yes (SAdj a b K l i)) := fun h1 h2 => by rw [yes_false (fun h => h1 (h2 h))]
  unfold s_Right.l0
  rw [if_pos (by omega), if_pos (by omega), if_pos (by omega), GL_rd, sound_eq a b L K l (GL l i) k (by omega), Option.bind_some]
  by_cases h1 : Lb a b K (GL l i)
  ·rw [if_pos (yes_true h1)]
   have step : (0 < i → cp (ky (GL l (i - 1))) (ky (GL l i)) < 0) → some (yes (SAdj a b K l (i + 1))) = some (yes (SAdj a b K l i)) := fun hc => by
    congr 1
    apply yes_congr
    exact ⟨fun hh j h1' h2 => by rcases Nat.eq_or_lt_of_le h1' with e | e; exact e ▸ ⟨h1, hc⟩; exact hh j e h2, fun hh j h1 h2 => hh j (by omega) h2⟩
   rw [inc hi' (by omega), ih]
   by_cases h4 : i = 0
   ·rw [if_neg (by omega)]
    exact step (fun h => by omega)
   ·have e : wrap64 ((i : Int) - 1) = ((i - 1 : Nat) : Int) := by rw [w64 (by omega) (by omega)]; omega
    rw [if_pos (by omega), e, if_pos (by omega), if_pos (by omega), GL_rd, scompare_eq k (by omega), Option.bind_some]
    by_cases h5 : cp (ky (GL l (i - 1))) (ky (GL l i)) ≥ 0
    ·exact (if_pos h5).trans (no (P := cp (ky (GL l (i - 1))) (ky (GL l i)) < 0) (by omega) (fun h => (h i (Nat.le_refl _) hi').2 (by omega)))
    ·exact (if_neg h5).trans (step (fun _ => by omega))
  ·rw [if_neg (by rw [yes_false h1]; decide)]
   exact no h1 (fun h => (h i (Nat.le_refl _) hi').1)
theorem st_adj (a b K : Int) (l : List S42) : SAdj a b K l 0 ↔ (∀ x ∈ l, Lb a b K x) ∧ Srt (l.map ky) := by
 constructor
 ·intro h
  refine ⟨fun x hx => ?_, adj_srt _ (fun j h1 h2 => ?_)⟩
  ·obtain ⟨j, hj, rfl⟩ := List.getElem_of_mem hx
   rw [← GL_get hj]
   exact (h j (Nat.zero_le _) hj).1
  ·rw [List.length_map] at h2
   rw [← GL_ky h2, ← GL_ky (by omega)]
   exact (h j (Nat.zero_le _) h2).2 h1
 ·rintro ⟨h1, h2⟩ j _ hj
  refine ⟨by rw [GL_get hj]; exact h1 _ (List.getElem_mem hj), fun h0 => ?_⟩
  have hm : (l.map ky).length = l.length := List.length_map ..
  rw [GL_ky hj, GL_ky (by omega), G_get (by omega), G_get (by omega)]
  exact List.pairwise_iff_getElem.1 h2 (j - 1) j (by omega) (by omega) (by omega)
theorem sNew_eq (a b L K : Int) (h : (1 ≤ L ∧ L ≤ 64) ∧ (1 ≤ K ∧ K ≤ 1024)) : s_New.f a b L K = some (a, b, L, K, [], 0) := by
 unfold s_New.f
 rw [if_neg (by omega), if_neg (by omega), if_neg (by omega), if_neg (by omega)]
theorem sNew_no (a b L K : Int) (h : ¬ ((1 ≤ L ∧ L ≤ 64) ∧ (1 ≤ K ∧ K ≤ 1024))) : s_New.f a b L K = some (0, 0, 0, 0, [], 1) := by
 unfold s_New.f
 split
 ·rfl
 ·split
  ·rfl
  ·split
   ·rfl
   ·split
    ·rfl
    ·exact absurd ⟨⟨by omega, by omega⟩, by omega, by omega⟩ h
theorem sRight_eq (a b L K : Int) (l : List S42) (k : Nat) (hk : 1200 ≤ k) : s_Right.f k a b L K l = some (yes (St a b L K l)) := by
 obtain ⟨k, rfl⟩ : ∃ k', k = k' + 1 := ⟨k - 1, by omega⟩
 have no : ¬ St a b L K l → s_Right.j0 (k + 1) true a b L K l = some (yes (St a b L K l)) := fun h => by rw [s_Right.j0, if_pos rfl, yes_false h]
 unfold s_Right.f
 by_cases h1 : (1 ≤ L ∧ L ≤ 64) ∧ (1 ≤ K ∧ K ≤ 1024)
 ·rw [sNew_eq a b L K h1, Option.bind_some, if_pos rfl]
  by_cases h3 : (l.length : Int) > L
  ·rw [decide_eq_true h3]
   exact no (fun h => by have := h.2.2.1; omega)
  ·rw [decide_eq_false h3, s_Right.j0, if_neg (by decide), show (0 : Int) = ((0 : Nat) : Int) from rfl, sright_l0 a b L K l (by omega) l.length k 0 (by omega) (by omega)]
   congr 1
   apply yes_congr
   rw [st_adj]
   exact ⟨fun h => ⟨h1.1, h1.2, by omega, h⟩, fun h => h.2.2.2⟩
 ·rw [sNew_no a b L K h1, Option.bind_some, if_neg (by decide)]
  exact no (fun h => h1 ⟨h.1, h.2.1⟩)
def fnd (x : S87) (l : List S42) : List S87 := if hit x (l.map ky) = true then (l.getD (pos x (l.map ky)) z42).f2.f2 else []
theorem hit_at (h : hit x (l.map ky) = true) : pos x (l.map ky) < l.length ∧ (l.getD (pos x (l.map ky)) z42) ∈ l ∧ (l.getD (pos x (l.map ky)) z42).f0 = x.f0 ∧ (l.getD (pos x (l.map ky)) z42).f1 = x.f1 := by
 unfold hit at h
 simp only [Bool.and_eq_true, decide_eq_true_eq, List.length_map] at h
 obtain ⟨h1, h2⟩ := h
 rw [ky_get h1] at h2
 obtain ⟨e1, e0⟩ := (cp_zero _ _).1 h2
 refine ⟨h1, ?_, e0, e1⟩
 rw [List.getD_eq_getElem?_getD, List.getElem?_eq_getElem h1]
 exact List.getElem_mem h1
theorem fnd_like {K : Int} (h : ∀ y ∈ l, Lb a b K y) (hK : 1 ≤ K ∧ K ≤ 1024) : Rt a b K (fnd x l) := by
 unfold fnd
 split
 ·rename_i hh
  obtain ⟨h1, h2, h3, h4⟩ := hit_at hh
  have g := h _ h2
  have := g.2.2.1
  rwa [g.2.2.2.1.1, g.2.2.2.1.2, g.2.2.2.2.1] at this
 ·exact ⟨hK, by simp only [List.length_nil]; omega, fun y hy => (by cases hy), List.Pairwise.nil⟩
def Rs (l : List S42) : Prop := ∀ x ∈ l, Rl x.f2.f2
theorem fnd_rl (h : Rs l) : Rl (fnd x l) := by
 unfold fnd
 split
 ·rename_i hh
  exact h _ (hit_at hh).2.1
 ·intro y hy; cases hy
theorem sfind_eq {L K : Int} (h : St a b L K l) (n : ByteArray) (hs : n.size ≤ 64) (k : Nat) (hk : 30 ≤ k) :
  s_find.f k a b L K l n = some (n, H a b n, a, b, K, fnd (kk n (H a b n)) l, hit (kk n (H a b n)) (l.map ky)) := by
 have hl := h.2.2.1
 have hL := h.1.2
 unfold s_find.f
 rw [Sip.sum_eq a b n (by omega) k (by omega), Option.bind_some, bsL_eq l (by omega) h.2.2.2.2 k (by omega), Option.bind_some]
 show (if hit (kk n (H a b n)) (l.map ky) = true then _ else _) = _
 unfold fnd
 by_cases hh : hit (kk n (H a b n)) (l.map ky) = true
 ·obtain ⟨h1, h2, h3, h4⟩ := hit_at hh
  have g := h.2.2.2.1 _ h2
  rw [if_pos hh, if_pos hh, hh]
  show (if (0 : Int) ≤ (pos (kk n (H a b n)) (l.map ky) : Int) then (if (pos (kk n (H a b n)) (l.map ky) : Int) < (l.length : Int) then _ else _) else _) = _
  rw [if_pos (by omega), if_pos (by omega)]
  have e : rd_T42 l ((pos (kk n (Sip.sum a b n.data.toList)) (l.map ky) : Nat) : Int) = l.getD (pos (kk n (H a b n)) (l.map ky)) z42 := by show l.getD (_ : Int).toNat z42 = _; rw [Int.toNat_natCast]; rfl
  simp only [e]
  rw [h3, h4, g.2.2.2.1.1, g.2.2.2.1.2, g.2.2.2.2.1]
  rfl
 ·rw [if_neg hh, if_neg hh, Bool.eq_false_iff.2 hh]
  rfl
theorem sput_eq (a b K : Int) (L : Nat) (l : List S42) (hl : l.length < 1000000) (hs : Srt (l.map ky)) (x : S42) (k : Nat) (hk : 3 ≤ k) :
  s_put.f k a b (L : Int) K l x.f0 x.f1 x.f2.f0.f0 x.f2.f0.f1 x.f2.f1 x.f2.f2 = some (a, b, (L : Int), K, (insS x l).take L) := by
 have hle := pos_le (ky x) (l.map ky)
 rw [List.length_map] at hle
 have cut : ∀ m : List S42, s_put.cut a b (L : Int) K m = some (a, b, (L : Int), K, m.take L) := fun m => by
  unfold s_put.cut
  rw [if_pos (by omega)]
  congr 5
  rcases Nat.le_total m.length L with h | h
  ·rw [show (min (m.length : Int) (L : Int)).toNat = m.length by omega, List.take_of_length_le (Nat.le_refl _), List.take_of_length_le h]
  ·rw [show (min (m.length : Int) (L : Int)).toNat = L by omega]
 unfold s_put.f
 rw [bsL_eq l hl hs k hk, Option.bind_some]
 show (if hit (ky x) (l.map ky) = true then (if 0 ≤ (pos (ky x) (l.map ky) : Int) ∧ (pos (ky x) (l.map ky) : Int) < (l.length : Int) then s_put.cut a b (L : Int) K (l.set (pos (ky x) (l.map ky) : Int).toNat x) else none)
  else (if 0 ≤ (pos (ky x) (l.map ky) : Int) ∧ (pos (ky x) (l.map ky) : Int) ≤ (l.length : Int) then s_put.cut a b (L : Int) K (l.take (pos (ky x) (l.map ky) : Int).toNat ++ [x] ++ l.drop (pos (ky x) (l.map ky) : Int).toNat) else none)) = _
 rw [Int.toNat_natCast]
 by_cases hh : hit (ky x) (l.map ky) = true
 ·have h1 := (hit_at hh).1
  rw [if_pos hh, if_pos ⟨by omega, by omega⟩, cut, insS_old x l hh]
 ·rw [if_neg hh, if_pos ⟨by omega, by omega⟩, cut, insS_new x l (Bool.eq_false_iff.2 hh)]
def lab (a b K : Int) (n : ByteArray) (m : List S87) : S42 := ⟨n, H a b n, ⟨⟨a, b⟩, K, m⟩⟩
theorem ins_some : ∀ {l m : List S87}, ins x l = some m → 0 < m.length
 | [], m, h => by injection h with h; subst h; exact Nat.zero_lt_one
 | y :: l, m, h => by
  unfold ins at h
  split at h
  ·obtain ⟨m', h3, rfl⟩ := Option.map_eq_some_iff.1 h
   exact Nat.succ_pos _
  ·split at h
   ·obtain ⟨u, h3, rfl⟩ := Option.map_eq_some_iff.1 h
    exact Nat.succ_pos _
   ·injection h with h
    subst h
    exact Nat.succ_pos _
theorem st_put (h : St a b L K l) (hr : Rs l) {x : S42} (hx : Lb a b K x) (hxr : Rl x.f2.f2) : St a b L K ((insS x l).take L) ∧ Rs ((insS x l).take L) := by
 refine ⟨⟨h.1, h.2.1, by rw [List.length_take]; omega, fun z hz => ?_, ?_⟩, fun z hz => ?_⟩
 ·rcases insS_mem (List.mem_of_mem_take hz) with h1 | h1
  ·exact h.2.2.2.1 z h1
  ·rw [h1]; exact hx
 ·rw [List.map_take, insS_map]
  exact List.Pairwise.sublist (List.take_sublist _ _) (insK_srt h.2.2.2.2)
 ·rcases insS_mem (List.mem_of_mem_take hz) with h1 | h1
  ·exact hr z h1
  ·rw [h1]; exact hxr
theorem lab_f0 (a b K : Int) (n : ByteArray) (m : List S87) : (lab a b K n m).f0 = n := rfl
theorem lab_f1 (a b K : Int) (n : ByteArray) (m : List S87) : (lab a b K n m).f1 = H a b n := rfl
theorem lab_f2 (a b K : Int) (n : ByteArray) (m : List S87) : (lab a b K n m).f2 = ⟨⟨a, b⟩, K, m⟩ := rfl
def cv (x : S87) : S68 := ⟨x.f0, x.f1, ⟨x.f2.f0, x.f2.f1⟩⟩
def D (l : List S68) (i : Nat) : S68 := l.getD i z68
theorem D_rd (l : List S68) (i : Nat) : rd_T68 l (i : Int) = D l i := by show l.getD (i : Int).toNat z68 = _; rw [Int.toNat_natCast]; rfl
theorem D_get {l : List S68} (h : i < l.length) : D l i = l[i] := by unfold D; rw [List.getD_eq_getElem?_getD, List.getElem?_eq_getElem h]; rfl
theorem D_map {l : List S87} (h : i < l.length) : D (l.map cv) i = cv (G l i) := by rw [D_get (by simpa using h), G_get h, List.getElem_map]
theorem refs_l0 (l : List S87) (hn : l.length < 3518437208883) : ∀ m k i, l.length = i + m → m < k → l14_Refs.l0 k ((l.take i).map cv) l (l.length : Int) (i : Int) = some (l.map cv)
 | 0, k, i, hi, hk => by
  obtain ⟨k, rfl⟩ : ∃ k', k = k' + 1 := ⟨k - 1, by omega⟩
  unfold l14_Refs.l0
  rw [if_neg (by omega), List.take_of_length_le (by omega)]
 | m + 1, k, i, hi, hk => by
  obtain ⟨k, rfl⟩ : ∃ k', k = k' + 1 := ⟨k - 1, by omega⟩
  have ih := refs_l0 l hn m k (i + 1) (by omega) (by omega)
  have hw : wrap64 ((i : Int) + 1) = ((i + 1 : Nat) : Int) := by unfold wrap64; omega
  unfold l14_Refs.l0
  rw [if_pos (by omega), if_pos (by omega), if_pos (by omega), if_pos (by rw [List.length_map, List.length_take]; omega), G_rd, hw]
  have e : (l.take i).map cv ++ [cv (G l i)] = (l.take (i + 1)).map cv := by
   rw [List.take_add_one, List.map_append, List.getElem?_eq_getElem (by omega), G_get (by omega)]
   rfl
  rw [← e] at ih
  exact ih
theorem refs_eq (l : List S87) (hn : l.length < 3518437208883) (k : Nat) (hk : l.length < k) : l14_Refs.f k l = some (l.map cv) := by
 unfold l14_Refs.f
 exact refs_l0 l hn l.length k 0 (by omega) (by omega)
theorem same_l0 (l m : List S68) (hlm : l.length = m.length) (hn : l.length ≤ 9000) : ∀ n k i, l.length = i + n → n < k → r14_Same.l0 k l m (i : Int) = some (yes (∀ j, i ≤ j → j < l.length → D l j = D m j))
 | 0, k, i, hi, hk => by
  obtain ⟨k, rfl⟩ : ∃ k', k = k' + 1 := ⟨k - 1, by omega⟩
  unfold r14_Same.l0
  rw [if_neg (by omega), yes_true (fun j h1 h2 => by omega)]
 | n + 1, k, i, hi, hk => by
  obtain ⟨k, rfl⟩ : ∃ k', k = k' + 1 := ⟨k - 1, by omega⟩
  have ih := same_l0 l m hlm hn n k (i + 1) (by omega) (by omega)
  unfold r14_Same.l0
  rw [if_pos (by omega), if_pos (by omega), if_pos (by omega), D_rd, D_rd, inc (show i < l.length by omega) (by omega), ih]
  by_cases h : D l i = D m i
  ·rw [h, if_neg (by simp)]
   congr 1
   apply yes_congr
   exact ⟨fun hh j h1 h2 => by rcases Nat.eq_or_lt_of_le h1 with e | e; exact e ▸ h; exact hh j e h2, fun hh j h1 h2 => hh j (by omega) h2⟩
  ·rw [if_pos ?_, yes_false (fun hh => h (hh i (Nat.le_refl _) (by omega)))]
   apply Classical.byContradiction
   intro hc
   apply h
   simp only [Bool.or_eq_true, Bool.not_eq_true', beq_eq_false_iff_ne, ne_eq, not_or, Decidable.not_not] at hc
   obtain ⟨h1, h2, h3, h4⟩ := hc
   revert h1 h2 h3 h4
   generalize D l i = x
   generalize D m i = y
   obtain ⟨p, q, r, s⟩ := x
   obtain ⟨p', q', r', s'⟩ := y
   intro h1 h2 h3 h4
   have h0 := list_inj h1
   simp only at h0 h2 h3 h4
   rw [h0, h2, h3, h4]
theorem rsame_eq (l m : List S68) (hn : l.length ≤ 9000) (k : Nat) (hk : 9001 ≤ k) : r14_Same.f k l m = some (yes (l = m)) := by
 unfold r14_Same.f
 by_cases h : l.length = m.length
 ·rw [if_pos (by omega), show (0 : Int) = ((0 : Nat) : Int) from rfl, same_l0 l m h hn l.length k 0 (by omega) (by omega)]
  congr 1
  apply yes_congr
  constructor
  ·intro hh
   apply List.ext_getElem h
   intro i h1 h2
   rw [← D_get h1, ← D_get h2]
   exact hh i (Nat.zero_le _) h1
  ·rintro rfl j _ _
   rfl
 ·rw [if_neg (by omega), yes_false (fun e => h (by rw [e]))]
def Small (l : List S87) : Prop := l.length ≤ 60 ∧ ∀ x ∈ l, x.f0.size ≤ 100
theorem small_l0 (a b K : Int) (l : List S87) (hn : l.length ≤ 60) : ∀ m k i, l.length = i + m → m < k → r14_Small.l0 k (i : Int) a b K (l.map cv) = some (yes (∀ j, i ≤ j → j < l.length → (G l j).f0.size ≤ 100))
 | 0, k, i, hi, hk => by
  obtain ⟨k, rfl⟩ : ∃ k', k = k' + 1 := ⟨k - 1, by omega⟩
  unfold r14_Small.l0
  rw [List.length_map, if_neg (by omega), yes_true (fun j h1 h2 => by omega)]
 | m + 1, k, i, hi, hk => by
  obtain ⟨k, rfl⟩ : ∃ k', k = k' + 1 := ⟨k - 1, by omega⟩
  have ih := small_l0 a b K l hn m k (i + 1) (by omega) (by omega)
  unfold r14_Small.l0
  rw [List.length_map, if_pos (by omega), if_pos (by omega), D_rd, D_map (by omega), inc (show i < 60 by omega) (by omega), ih]
  by_cases h : ((cv (G l i)).f0.size : Int) > 100
  ·rw [if_pos h, yes_false (fun hh => by have := hh i (Nat.le_refl _) (by omega); have : ((G l i).f0.size : Int) > 100 := h; omega)]
  ·rw [if_neg h]
   congr 1
   apply yes_congr
   have h' : (G l i).f0.size ≤ 100 := by have : ¬ ((G l i).f0.size : Int) > 100 := h; omega
   exact ⟨fun hh j h1 h2 => by rcases Nat.eq_or_lt_of_le h1 with e | e; exact e ▸ h'; exact hh j e h2, fun hh j h1 h2 => hh j (by omega) h2⟩
theorem small_eq (a b K : Int) (l : List S87) (k : Nat) (hk : 61 ≤ k) : r14_Small.f k a b K (l.map cv) = some (yes (Small l)) := by
 unfold r14_Small.f
 rw [List.length_map]
 by_cases h : l.length ≤ 60
 ·rw [if_neg (by omega), show (0 : Int) = ((0 : Nat) : Int) from rfl, small_l0 a b K l h l.length k 0 (by omega) (by omega)]
  congr 1
  apply yes_congr
  unfold Small
  constructor
  ·intro hh
   refine ⟨h, fun x hx => ?_⟩
   obtain ⟨j, hj, rfl⟩ := List.getElem_of_mem hx
   rw [← G_get hj]
   exact hh j (Nat.zero_le _) hj
  ·intro hh j _ hj
   rw [G_get hj]
   exact hh.2 _ (List.getElem_mem hj)
 ·rw [if_pos (by omega), yes_false (fun hh => h hh.1)]
def mdl : List S87 → List S87 → Option (List S87)
 | out, [] => some out
 | out, x :: es => (ins x out).bind fun m => mdl m es
theorem rl_ins {l : List S87} (hr : Rl l) (hx : Rng x.f2) (hi : ins x l = some m) : Rl m := by
 intro z hz
 rcases ins_mem hi z hz with h1 | h1 | ⟨y, h1, h2⟩
 ·exact hr z h1
 ·rw [h1]; exact hx
 ·exact un_rng (hr y h1) hx h2
theorem mdl_append : ∀ (es fs out : List S87), mdl out (es ++ fs) = (mdl out es).bind fun m => mdl m fs
 | [], _, _ => rfl
 | x :: es, fs, out => by
  rw [List.cons_append, mdl, mdl]
  cases ins x out with
  | none => rfl
  | some m => exact mdl_append es fs m
theorem ins_all : ∀ {l : List S87}, (∀ z ∈ l, cp z x < 0) → ins x l = some (l ++ [x])
 | [], _ => rfl
 | y :: l, h => by
  unfold ins
  rw [if_pos (h y (List.mem_cons_self ..)), ins_all (fun z hz => h z (List.mem_cons_of_mem _ hz))]
  rfl
theorem mdl_srt : ∀ (l out : List S87), Srt (out ++ l) → mdl out l = some (out ++ l)
 | [], out, _ => by rw [mdl, List.append_nil]
 | x :: l, out, h => by
  have h2 : ∀ z ∈ out, cp z x < 0 := fun z hz => (List.pairwise_append.1 h).2.2 z hz x (List.mem_cons_self ..)
  rw [mdl, ins_all h2, Option.bind_some, mdl_srt l (out ++ [x]) (by rw [List.append_assoc]; exact h), List.append_assoc]
  rfl
theorem Ahead_eq (y x : S87) (p q r s : Int) : r14_Ahead.f y.f0 y.f1 p q x.f0 x.f1 r s = some (decide (cp y x < 0)) := by
 unfold r14_Ahead.f cp
 by_cases h : y.f1 = x.f1
 ·rw [if_pos h, if_neg (by omega), if_neg (by omega), Lib.toList_data, Lib.toList_data, cb_less]
 ·rw [if_neg h]
  by_cases h2 : y.f1 < x.f1
  ·rw [if_pos h2, decide_eq_true h2]; rfl
  ·rw [if_neg h2, if_pos (by omega), decide_eq_false h2]; rfl
theorem rright_l0 (a b K : Int) (l : List S87) (hn : l.length ≤ 1025) : ∀ m k i, l.length = i + m → 2 * m + 200 < k → r14_Right.l0 k (i : Int) a b K (l.map cv) = some (yes (Adj a b l i)) ∨ ∃ j, j < l.length ∧ 1000 < (G l j).f0.size ∧ (G l j).f0.size ≤ 64
 | 0, k, i, hi, hk => by
  obtain ⟨k, rfl⟩ : ∃ k', k = k' + 1 := ⟨k - 1, by omega⟩
  unfold r14_Right.l0
  left
  rw [List.length_map, if_neg (by omega), yes_true (P := Adj a b l i) (fun j h1 h2 => by omega)]
 | m + 1, k, i, hi, hk => by
  obtain ⟨k, rfl⟩ : ∃ k', k = k' + 1 + 1 := ⟨k - 2, by omega⟩
  left
  have ih := (rright_l0 a b K l hn m k (i + 1) (by omega) (by omega)).resolve_right (fun ⟨j, h1, h2, h3⟩ => by omega)
  have hi' : i < l.length := by omega
  unfold r14_Right.l0
  rw [List.length_map, if_pos (by omega), if_pos (by omega), D_rd, D_map hi']
  have no : ∀ {P : Prop}, ¬ P → (Adj a b l i → P) → (some false : Option Bool) = some (yes (Adj a b l i)) := fun h1 h2 => by rw [yes_false (fun h => h1 (h2 h))]
  have j2t : ∀ p q r s, r14_Right.j2 (k + 1) (i : Int) true a b K (l.map cv) p q r s = some false := fun p q r s => by rw [r14_Right.j2, if_pos rfl]
  by_cases h1 : ((cv (G l i)).f0.size : Int) > 64
  ·rw [if_pos h1, j2t]
   exact no (P := (G l i).f0.size ≤ 64) (by have : ((G l i).f0.size : Int) > 64 := h1; omega) (fun h => (h i (Nat.le_refl _) hi').1.1)
  ·have h1' : (G l i).f0.size ≤ 64 := by have : ¬ ((G l i).f0.size : Int) > 64 := h1; omega
   rw [if_neg h1, show (cv (G l i)).f0 = (G l i).f0 from rfl, Sip.ref_sum_eq a b (G l i).f0 (by omega) (k + 1) (by omega), Option.bind_some]
   by_cases h2 : (G l i).f1 = Sip.sum a b (G l i).f0.data.toList
   ·rw [if_pos (show (cv (G l i)).f1 = _ from h2)]
    by_cases h3 : (G l i).f2.f0 = 0 ∧ (G l i).f2.f1 = 0
    ·rw [show ((cv (G l i)).f2.f0 == 0 && (cv (G l i)).f2.f1 == 0) = true by show ((G l i).f2.f0 == 0 && (G l i).f2.f1 == 0) = true; simp [h3.1, h3.2], j2t]
     exact no (P := ¬ ((G l i).f2.f0 = 0 ∧ (G l i).f2.f1 = 0)) (fun h => h h3) (fun h => (h i (Nat.le_refl _) hi').1.2.2)
    ·rw [show ((cv (G l i)).f2.f0 == 0 && (cv (G l i)).f2.f1 == 0) = false by show ((G l i).f2.f0 == 0 && (G l i).f2.f1 == 0) = false; simpa using h3, r14_Right.j2, if_neg (by decide)]
     have hg : Ge a b (G l i) := ⟨h1', h2, h3⟩
     have step : (0 < i → cp (G l (i - 1)) (G l i) < 0) → some (yes (Adj a b l (i + 1))) = some (yes (Adj a b l i)) := fun hc => by
      congr 1
      apply yes_congr
      exact ⟨fun hh j h1 h2 => by rcases Nat.eq_or_lt_of_le h1 with e | e; exact e ▸ ⟨hg, hc⟩; exact hh j e h2, fun hh j h1 h2 => hh j (by omega) h2⟩
     rw [inc hi' (by omega), ih]
     by_cases h4 : i = 0
     ·rw [if_neg (by omega)]
      exact step (fun h => by omega)
     ·have e : wrap64 ((i : Int) - 1) = ((i - 1 : Nat) : Int) := by rw [w64 (by omega) (by omega)]; omega
      rw [if_pos (by omega), e, if_pos (by omega), if_pos (by rw [List.length_map]; omega), D_rd, D_map (by omega)]
      rw [show r14_Ahead.f (cv (G l (i - 1))).f0 (cv (G l (i - 1))).f1 (cv (G l (i - 1))).f2.f0 (cv (G l (i - 1))).f2.f1 (G l i).f0 (cv (G l i)).f1 (cv (G l i)).f2.f0 (cv (G l i)).f2.f1 = _ from Ahead_eq (G l (i - 1)) (G l i) _ _ _ _, Option.bind_some]
      by_cases h5 : cp (G l (i - 1)) (G l i) < 0
      ·rw [decide_eq_true h5, if_pos rfl]
       exact step (fun _ => h5)
      ·rw [decide_eq_false h5, if_neg (by decide)]
       exact no (P := cp (G l (i - 1)) (G l i) < 0) h5 (fun h => (h i (Nat.le_refl _) hi').2 (by omega))
   ·rw [if_neg (show ¬ (cv (G l i)).f1 = _ from h2), j2t]
    exact no (P := (G l i).f1 = H a b (G l i).f0) h2 (fun h => (h i (Nat.le_refl _) hi').1.2.1)
theorem rright_eq (a b K : Int) (l : List S87) (k : Nat) (hk : 2400 ≤ k) : r14_Right.f k a b K (l.map cv) = some (yes (Rt a b K l)) := by
 obtain ⟨k, rfl⟩ : ∃ k', k = k' + 1 := ⟨k - 1, by omega⟩
 have no : ¬ Rt a b K l → r14_Right.j0 (k + 1) true a b K (l.map cv) = some (yes (Rt a b K l)) := fun h => by rw [r14_Right.j0, if_pos rfl, yes_false h]
 unfold r14_Right.f
 by_cases h1 : K < 1
 ·rw [if_pos h1]
  exact no (fun h => by have := h.1.1; omega)
 ·rw [if_neg h1]
  by_cases h2 : K > 1024
  ·rw [if_pos h2]
   exact no (fun h => by have := h.1.2; omega)
  ·rw [if_neg h2, w64 (by omega) (by omega), List.length_map]
   by_cases h3 : (l.length : Int) > K + 1
   ·rw [decide_eq_true h3]
    exact no (fun h => by have := h.2.1; omega)
   ·rw [decide_eq_false h3, r14_Right.j0, if_neg (by decide), show (0 : Int) = ((0 : Nat) : Int) from rfl, (rright_l0 a b K l (by omega) l.length k 0 (by omega) (by omega)).resolve_right (fun ⟨j, h1, h2, h3⟩ => by omega)]
    congr 1
    apply yes_congr
    rw [rt_adj]
    exact ⟨fun h => ⟨⟨by omega, by omega⟩, by omega, h⟩, fun h => h.2.2⟩
def Hd (a b : Int) (l : List S87) : Prop := ∀ y ∈ l, y.f1 = H a b y.f0
theorem hd_ins {l : List S87} (h : Hd a b l) (hx : x.f1 = H a b x.f0) (hi : ins x l = some m) : Hd a b m := by
 intro z hz
 rcases ins_mem hi z hz with h1 | h1 | ⟨y, h1, h2⟩
 ·exact h z h1
 ·rw [h1]; exact hx
 ·have := un_like h2
  rw [this.2.1, this.1]
  exact h y h1
theorem radd_rng {c : Int} (h1 : Rng ⟨a, b⟩) (h2 : Rng ⟨c, d⟩) : r01_Add.f a b c d = some (if num ⟨a, b⟩ + num ⟨c, d⟩ < top then ((mkU (num ⟨a, b⟩ + num ⟨c, d⟩)).f0, (mkU (num ⟨a, b⟩ + num ⟨c, d⟩)).f1, true) else (0, 0, false)) := add_rng h1 h2
theorem model_l1 (a b : Int) (ks : List ByteArray) (cs : List S65) (n : Int) (out : List S87) (i : Int) (x : S87) (hout : out.length ≤ 5000) : ∀ m k j, pos x out = j + m → m < k →
  r14_Model.l1 k ks cs n (out.map cv) i (j : Int) a b x.f0 x.f1 x.f2.f0 x.f2.f1 = r14_Model.j2 (k - m - 1) ks cs n (out.map cv) i (pos x out : Int) a b x.f0 x.f1 x.f2.f0 x.f2.f1
 | 0, k, j, hj, hk => by
  obtain ⟨k, rfl⟩ : ∃ k', k = k' + 1 := ⟨k - 1, by omega⟩
  obtain rfl : pos x out = j := by omega
  have hle := pos_le x out
  unfold r14_Model.l1
  by_cases h : pos x out < out.length
  ·rw [List.length_map, if_pos (by omega), if_pos (by omega), D_rd, D_map h]
   have hc : ¬ cp (G out (pos x out)) x < 0 := by
    have : ∀ l : List S87, pos x l < l.length → ¬ cp (l.getD (pos x l) z87) x < 0 := by
     intro l
     induction l with
     | nil => intro h; exact absurd h (Nat.not_lt_zero _)
     | cons y l ih =>
      unfold pos
      split
      ·intro h
       exact ih (by simpa using h)
      ·rename_i hy
       intro _
       exact hy
    exact this out h
   rw [show r14_Ahead.f (cv (G out (pos x out))).f0 (cv (G out (pos x out))).f1 (cv (G out (pos x out))).f2.f0 (cv (G out (pos x out))).f2.f1 x.f0 x.f1 x.f2.f0 x.f2.f1 = _ from Ahead_eq (G out (pos x out)) x _ _ _ _, Option.bind_some, decide_eq_false hc, if_neg (by decide)]
   rfl
  ·rw [List.length_map, if_neg (by omega)]
   rfl
 | m + 1, k, j, hj, hk => by
  obtain ⟨k, rfl⟩ : ∃ k', k = k' + 1 := ⟨k - 1, by omega⟩
  have hle := pos_le x out
  have ih := model_l1 a b ks cs n out i x hout m k (j + 1) (by omega) (by omega)
  unfold r14_Model.l1
  rw [List.length_map, if_pos (by omega), if_pos (by omega), D_rd, D_map (by omega)]
  rw [show r14_Ahead.f (cv (G out j)).f0 (cv (G out j)).f1 (cv (G out j)).f2.f0 (cv (G out j)).f2.f1 x.f0 x.f1 x.f2.f0 x.f2.f1 = _ from Ahead_eq (G out j) x _ _ _ _, Option.bind_some, decide_eq_true (show cp (G out j) x < 0 from pos_lo x out j (by omega)), if_pos rfl, inc (show j < out.length by omega) (by omega), ih]
  congr 1
  omega
theorem hit_key {out : List S87} (hd : Hd a b out) (hx : x.f1 = H a b x.f0) (h : pos x out < out.length) : (((cv (G out (pos x out))).f0.toList) == x.f0.toList) = hit x out := by
 unfold hit
 rw [decide_eq_true h, Bool.true_and]
 change _ = decide (cp (G out (pos x out)) x = 0)
 have hm : G out (pos x out) ∈ out := by rw [G_get h]; exact List.getElem_mem h
 by_cases hk : (G out (pos x out)).f0 = x.f0
 ·rw [show (cv (G out (pos x out))).f0 = x.f0 from hk, beq_self_eq_true]
  exact (decide_eq_true ((cp_zero _ _).2 ⟨by show (G out (pos x out)).f1 = _; rw [hd _ hm, hx, hk], hk⟩)).symm
 ·rw [decide_eq_false (fun h0 => hk ((cp_zero _ _).1 h0).2), beq_eq_false_iff_ne]
  exact fun e => hk (list_inj e)
theorem model_j2 (a b : Int) (ks : List ByteArray) (cs : List S65) (n : Int) (out : List S87) (i : Nat) (hi : i < 5000) (x : S87) (hout : out.length ≤ 5000) (hd : Hd a b out) (hr : Rl out) (hx : x.f1 = H a b x.f0) (hxr : Rng x.f2) (k : Nat) :
  r14_Model.j2 (k + 2) ks cs n (out.map cv) (i : Int) (pos x out : Int) a b x.f0 x.f1 x.f2.f0 x.f2.f1 = match ins x out with | some m => r14_Model.l0 k ks cs n (m.map cv) ((i + 1 : Nat) : Int) a b | none => some ([], false) := by
 have hle := pos_le x out
 have e3 : ∀ c, c = hit x out → r14_Model.j3 (k + 1) ks cs n (out.map cv) (i : Int) (pos x out : Int) c a b x.f0 x.f1 x.f2.f0 x.f2.f1 = match ins x out with | some m => r14_Model.l0 k ks cs n (m.map cv) ((i + 1 : Nat) : Int) a b | none => some ([], false) := by
  rintro c rfl
  unfold r14_Model.j3
  rw [inc (show i < 5000 by exact hi) (by omega)]
  cases hh : hit x out with
  | true =>
   have hp : pos x out < out.length := by unfold hit at hh; simp at hh; exact hh.1
   rw [if_pos rfl, if_pos (by omega), if_pos (by rw [List.length_map]; omega), D_rd, D_map hp, ins_old x out hh]
   rw [show r01_Add.f (cv (G out (pos x out))).f2.f0 (cv (G out (pos x out))).f2.f1 x.f2.f0 x.f2.f1 = _ from radd_rng (rl_get hr hp) hxr, Option.bind_some]
   unfold un
   by_cases hc : num (out.getD (pos x out) z87).f2 + num x.f2 < top
   ·have hc' : num ⟨(cv (G out (pos x out))).f2.f0, (cv (G out (pos x out))).f2.f1⟩ + num ⟨x.f2.f0, x.f2.f1⟩ < top := hc
    rw [if_pos hc', if_pos hc]
    simp only
    rw [if_pos trivial, Int.toNat_natCast]
    simp only [Option.map_some]
    rw [List.map_set]
    rfl
   ·have hc' : ¬ num ⟨(cv (G out (pos x out))).f2.f0, (cv (G out (pos x out))).f2.f1⟩ + num ⟨x.f2.f0, x.f2.f1⟩ < top := hc
    rw [if_neg hc', if_neg hc]
    simp only
    rw [if_neg (by decide)]
    rfl
  | false =>
   rw [if_neg (by decide), if_pos (by omega), if_pos (by rw [List.length_map]; omega), Option.bind_some, Int.toNat_natCast, if_pos (by simp only [List.length_nil, List.length_take, List.length_map]; omega), Option.bind_some, List.nil_append, if_pos (by simp only [List.length_take, List.length_map]; omega), Option.bind_some, Option.bind_some, if_pos (by simp only [List.length_append, List.length_take, List.length_drop, List.length_map, List.length_singleton]; omega), ins_new x out hh]
   simp only [List.map_append, List.map_take, List.map_drop, List.map_cons, List.map_nil]
   rfl
 unfold r14_Model.j2
 by_cases h : pos x out < out.length
 ·rw [List.length_map, if_pos (by omega), if_pos (by omega), D_rd, D_map h]
  exact e3 _ (hit_key hd hx h)
 ·rw [List.length_map, if_neg (by omega)]
  exact e3 _ (by unfold hit; rw [decide_eq_false h]; rfl)
def ent (a b : Int) (y : S68) : S87 := ⟨y.f0, H a b y.f0, ⟨y.f2.f0, y.f2.f1⟩⟩
theorem ent_f1 (a b : Int) (y : S68) : (ent a b y).f1 = H a b (ent a b y).f0 := by
 simp only [ent]
theorem T50_rd (es : List S68) (i : Nat) (h : i < es.length) : rd_T65 (es.map (·.f2)) (i : Int) = es[i].f2 := by
 show (es.map (·.f2)).getD (i : Int).toNat z65 = _
 rw [Int.toNat_natCast, List.getD_eq_getElem?_getD, List.getElem?_map, List.getElem?_eq_getElem h]
 rfl
theorem K_rd (es : List S68) (i : Nat) (h : i < es.length) : rdOf ByteArray.empty (es.map (·.f0)) (i : Int) = es[i].f0 := by
 show (es.map (·.f0)).getD (i : Int).toNat _ = _
 rw [Int.toNat_natCast, List.getD_eq_getElem?_getD, List.getElem?_map, List.getElem?_eq_getElem h]
 rfl
set_option maxRecDepth 100000 in
theorem model_l0 (a b : Int) (es : List S68) (n : Nat) (hes : es.length ≤ 1000) (hsz : ∀ y ∈ es, y.f0.size ≤ 100 ∧ Rng y.f2) : ∀ m k i (out : List S87), es.length = i + m → out.length ≤ i → Hd a b out → Rl out → 1100 * m + 400 ≤ k →
  r14_Model.l0 k (es.map (·.f0)) (es.map (·.f2)) (n : Int) (out.map cv) (i : Int) a b = match mdl out ((es.drop i).map (ent a b)) with | some r => some ((r.take n).map cv, true) | none => some ([], false)
 | 0, k, i, out, hi, ho, hd, hr, hk => by
  obtain ⟨k, rfl⟩ : ∃ k', k = k' + 1 := ⟨k - 1, by omega⟩
  unfold r14_Model.l0
  rw [List.length_map, if_neg (by omega), List.drop_of_length_le (by omega), List.length_map]
  simp only [List.map_nil, mdl]
  by_cases h : (out.length : Int) > (n : Int)
  ·rw [if_pos h, if_pos (by omega), if_pos (by omega), Int.toNat_natCast, List.map_take]
  ·rw [if_neg h, List.take_of_length_le (by omega)]
 | m + 1, k, i, out, hi, ho, hd, hr, hk => by
  obtain ⟨k, rfl⟩ : ∃ k', k = k' + 1 := ⟨k - 1, by omega⟩
  have hi' : i < es.length := by omega
  have hy := hsz es[i] (List.getElem_mem hi')
  have hle := pos_le (ent a b es[i]) out
  unfold r14_Model.l0
  rw [List.length_map, if_pos (by omega), if_pos (by omega), K_rd es i hi', Sip.ref_sum_eq a b es[i].f0 (by omega) k (by omega), Option.bind_some, List.length_map, if_pos (by omega), T50_rd es i hi', show (0 : Int) = ((0 : Nat) : Int) from rfl]
  rw [show r14_Model.l1 k (es.map (·.f0)) (es.map (·.f2)) (n : Int) (out.map cv) (i : Int) ((0 : Nat) : Int) a b es[i].f0 (Sip.sum a b es[i].f0.data.toList) es[i].f2.f0 es[i].f2.f1 = _ from model_l1 a b (es.map (·.f0)) (es.map (·.f2)) n out i (ent a b es[i]) (by omega) (pos (ent a b es[i]) out) k 0 (by omega) (by omega)]
  obtain ⟨k2, hk2⟩ : ∃ k2, k - pos (ent a b es[i]) out - 1 = k2 + 2 := ⟨k - pos (ent a b es[i]) out - 3, by omega⟩
  rw [hk2, model_j2 a b _ _ n out i (by omega) (ent a b es[i]) (by omega) hd hr (ent_f1 a b es[i]) hy.2 k2, List.drop_eq_getElem_cons hi', List.map_cons, mdl]
  cases hc : ins (ent a b es[i]) out with
  | none => rfl
  | some r =>
   have := ins_length hc
   rw [Option.bind_some]
   exact model_l0 a b es n hes hsz m k2 (i + 1) r (by omega) (by omega) (hd_ins hd (ent_f1 a b es[i]) hc) (rl_ins hr hy.2 hc) (by omega)
theorem model_eq (a b : Int) (es : List S68) (n : Nat) (hes : es.length ≤ 1000) (hsz : ∀ y ∈ es, y.f0.size ≤ 100 ∧ Rng y.f2) (k : Nat) (hk : 1100 * es.length + 400 ≤ k) :
  r14_Model.f k a b (es.map (·.f0)) (es.map (·.f2)) (n : Int) = match mdl [] (es.map (ent a b)) with | some r => some ((r.take n).map cv, true) | none => some ([], false) := by
 unfold r14_Model.f
 exact model_l0 a b es n hes hsz es.length k 0 [] (by omega) (Nat.le_refl _) (fun _ h => by cases h) (fun _ h => by cases h) hk
theorem joined_l1 (a b : Int) (la lb : List S68) (n : Int) (hb : lb.length + la.length ≤ 1000) : ∀ m k i, lb.length = i + m → m < k →
  r14_Joined.l1 k lb n ((la ++ lb.take i).map (·.f0)) ((la ++ lb.take i).map (·.f2)) (i : Int) a b = (r14_Model.f (k - m - 1) a b ((la ++ lb).map (·.f0)) ((la ++ lb).map (·.f2)) n).bind fun t => some (t.1, t.2)
 | 0, k, i, hi, hk => by
  obtain ⟨k, rfl⟩ : ∃ k', k = k' + 1 := ⟨k - 1, by omega⟩
  unfold r14_Joined.l1
  rw [if_neg (by omega), List.take_of_length_le (by omega)]
  rfl
 | m + 1, k, i, hi, hk => by
  obtain ⟨k, rfl⟩ : ∃ k', k = k' + 1 := ⟨k - 1, by omega⟩
  have ih := joined_l1 a b la lb n hb m k (i + 1) (by omega) (by omega)
  have hi' : i < lb.length := by omega
  have e0 : (la ++ lb.take (i + 1)).map (·.f0) = (la ++ lb.take i).map (·.f0) ++ [(D lb i).f0] := by rw [List.take_add_one, List.getElem?_eq_getElem hi', D_get hi']; simp only [Option.toList_some, List.map_append, List.map_cons, List.map_nil, List.append_assoc]
  have e2 : (la ++ lb.take (i + 1)).map (·.f2) = (la ++ lb.take i).map (·.f2) ++ [⟨(D lb i).f2.f0, (D lb i).f2.f1⟩] := by rw [List.take_add_one, List.getElem?_eq_getElem hi', D_get hi']; simp only [Option.toList_some, List.map_append, List.map_cons, List.map_nil, List.append_assoc]
  unfold r14_Joined.l1
  rw [if_pos (by omega), if_pos (by omega), Option.bind_some, D_rd, if_pos (by simp only [List.length_map, List.length_append, List.length_take, List.length_singleton]; omega), Option.bind_some, if_pos (by simp only [List.length_map, List.length_append, List.length_take, List.length_singleton]; omega), inc (show i < lb.length by omega) (by omega), ← e0, ← e2, ih]
  congr 2
  omega
theorem joined_l0 (a b : Int) (la lb : List S68) (n : Int) (hb : lb.length + la.length ≤ 1000) : ∀ m k i, la.length = i + m → m + lb.length + 1 < k →
  r14_Joined.l0 k la lb n ((la.take i).map (·.f0)) ((la.take i).map (·.f2)) (i : Int) a b = (r14_Model.f (k - m - lb.length - 2) a b ((la ++ lb).map (·.f0)) ((la ++ lb).map (·.f2)) n).bind fun t => some (t.1, t.2)
 | 0, k, i, hi, hk => by
  obtain ⟨k, rfl⟩ : ∃ k', k = k' + 1 := ⟨k - 1, by omega⟩
  have h := joined_l1 a b la lb n hb lb.length k 0 (by omega) (by omega)
  simp only [List.take_zero, List.append_nil] at h
  unfold r14_Joined.l0
  rw [if_neg (by omega), List.take_of_length_le (by omega), show (0 : Int) = ((0 : Nat) : Int) from rfl, h]
  congr 2
  omega
 | m + 1, k, i, hi, hk => by
  obtain ⟨k, rfl⟩ : ∃ k', k = k' + 1 := ⟨k - 1, by omega⟩
  have ih := joined_l0 a b la lb n hb m k (i + 1) (by omega) (by omega)
  have hi' : i < la.length := by omega
  have e0 : (la.take (i + 1)).map (·.f0) = (la.take i).map (·.f0) ++ [(D la i).f0] := by rw [List.take_add_one, List.getElem?_eq_getElem hi', D_get hi']; simp only [Option.toList_some, List.map_append, List.map_cons, List.map_nil, List.append_assoc]
  have e2 : (la.take (i + 1)).map (·.f2) = (la.take i).map (·.f2) ++ [⟨(D la i).f2.f0, (D la i).f2.f1⟩] := by rw [List.take_add_one, List.getElem?_eq_getElem hi', D_get hi']; simp only [Option.toList_some, List.map_append, List.map_cons, List.map_nil, List.append_assoc]
  unfold r14_Joined.l0
  rw [if_pos (by omega), if_pos (by omega), Option.bind_some, D_rd, if_pos (by simp only [List.length_map, List.length_append, List.length_take, List.length_singleton]; omega), Option.bind_some, if_pos (by simp only [List.length_map, List.length_append, List.length_take, List.length_singleton]; omega), inc (show i < la.length by omega) (by omega), ← e0, ← e2, ih]
  congr 2
  omega
theorem joined_eq (a b : Int) (la lb : List S68) (n : Nat) (hb : lb.length + la.length ≤ 1000) (hsz : ∀ y ∈ la ++ lb, y.f0.size ≤ 100 ∧ Rng y.f2) (k : Nat) (hk : 1101 * (lb.length + la.length) + 500 ≤ k) :
  r14_Joined.f k a b la lb (n : Int) = match mdl [] ((la ++ lb).map (ent a b)) with | some r => some ((r.take n).map cv, true) | none => some ([], false) := by
 unfold r14_Joined.f
 have h := joined_l0 a b la lb n hb la.length k 0 (by omega) (by omega)
 simp only [List.take_zero, List.map_nil] at h
 rw [show (0 : Int) = ((0 : Nat) : Int) from rfl, h, model_eq a b (la ++ lb) n (by rw [List.length_append]; omega) hsz _ (by rw [List.length_append]; omega)]
 cases mdl [] ((la ++ lb).map (ent a b)) <;> rfl
theorem ent_cv {l : List S87} (h : Hd a b l) : (l.map cv).map (ent a b) = l := by
 rw [List.map_map]
 conv => rhs; rw [← List.map_id l]
 apply List.map_congr_left
 intro x hx
 have := h x hx
 obtain ⟨p, q, r, s⟩ := x
 simp only at this
 rw [this]
 rfl
def mrg (N : Nat) : List S87 → List S87 → Option (List S87)
 | l, [] => some l
 | l, x :: es => (ins x l).bind fun m => mrg N (m.take N) es
theorem ins_cons (x y : S87) (l : List S87) : ins x (y :: l) = if cp y x < 0 then (ins x l).map (y :: ·) else if cp y x = 0 then (un y x).map (· :: l) else some (x :: y :: l) := rfl
theorem ins_take : ∀ {l m : List S87} (N : Nat), ins x l = some m → ∃ m', ins x (l.take N) = some m' ∧ m'.take N = m.take N
 | l, m, 0, _ => by
  rw [List.take_zero]
  exact ⟨[x], rfl, by simp⟩
 | [], m, N + 1, h => by
  rw [List.take_nil]
  exact ⟨m, h, rfl⟩
 | y :: l, m, N + 1, h => by
  rw [ins_cons] at h
  rw [List.take_succ_cons, ins_cons]
  split at h
  ·rename_i hy
   rw [if_pos hy]
   obtain ⟨m1, h1, rfl⟩ := Option.map_eq_some_iff.1 h
   obtain ⟨m', h2, h3⟩ := ins_take N h1
   rw [h2]
   exact ⟨y :: m', rfl, by rw [List.take_succ_cons, List.take_succ_cons, h3]⟩
  ·rename_i hy
   rw [if_neg hy]
   split at h
   ·rename_i h0
    rw [if_pos h0]
    obtain ⟨u, h1, rfl⟩ := Option.map_eq_some_iff.1 h
    rw [h1]
    exact ⟨u :: l.take N, rfl, by rw [List.take_succ_cons, List.take_succ_cons, List.take_take, Nat.min_self]⟩
   ·rename_i h0
    rw [if_neg h0]
    injection h with h
    subst h
    refine ⟨_, rfl, ?_⟩
    rw [List.take_succ_cons, List.take_succ_cons]
    cases N with
    | zero => rfl
    | succ N => rw [List.take_succ_cons, List.take_succ_cons, List.take_take, Nat.min_eq_left (by omega)]
theorem mrg_mdl (N : Nat) : ∀ (es l m : List S87), mdl l es = some m → mrg N (l.take N) es = some (m.take N)
 | [], l, m, h => by
  rw [mdl] at h
  injection h with h
  subst h
  rfl
 | x :: es, l, m, h => by
  rw [mdl] at h
  obtain ⟨m1, h1, h2⟩ := Option.bind_eq_some_iff.1 h
  obtain ⟨m', h3, h4⟩ := ins_take N h1
  rw [mrg, h3, Option.bind_some, h4]
  exact mrg_mdl N es m1 m h2
theorem ins_mem2 : ∀ {l m : List S87}, ins x l = some m → ∀ z ∈ m, z ∈ l ∨ cp z x = 0
 | [], m, h, z, hz => by
  injection h with h
  subst h
  rw [List.mem_singleton.1 hz]
  exact .inr ((cp_zero x x).2 ⟨rfl, rfl⟩)
 | y :: l, m, h, z, hz => by
  rw [ins_cons] at h
  split at h
  ·obtain ⟨m', h1, rfl⟩ := Option.map_eq_some_iff.1 h
   rcases List.mem_cons.1 hz with rfl | hz
   ·exact .inl (List.mem_cons_self ..)
   ·rcases ins_mem2 h1 z hz with h2 | h2
    ·exact .inl (List.mem_cons_of_mem _ h2)
    ·exact .inr h2
  ·split at h
   ·rename_i h0
    obtain ⟨u, h1, rfl⟩ := Option.map_eq_some_iff.1 h
    rcases List.mem_cons.1 hz with rfl | hz
    ·have := un_like h1
     exact .inr (by rw [(cp_like this.2.1 this.1 x).2]; exact h0)
    ·exact .inl (List.mem_cons_of_mem _ hz)
   ·injection h with h
    subst h
    rcases List.mem_cons.1 hz with rfl | hz
    ·exact .inr ((cp_zero z z).2 ⟨rfl, rfl⟩)
    ·exact .inl hz
theorem mem_ins {y : S87} (hc : cp y x ≠ 0) : ∀ {l m : List S87}, ins x l = some m → y ∈ l → y ∈ m
 | [], m, _, hy => by cases hy
 | u :: l, m, h, hy => by
  rw [ins_cons] at h
  split at h
  ·obtain ⟨m', h1, rfl⟩ := Option.map_eq_some_iff.1 h
   rcases List.mem_cons.1 hy with rfl | hy
   ·exact List.mem_cons_self ..
   ·exact List.mem_cons_of_mem _ (mem_ins hc h1 hy)
  ·split at h
   ·rename_i h0
    obtain ⟨v, h1, rfl⟩ := Option.map_eq_some_iff.1 h
    rcases List.mem_cons.1 hy with rfl | hy
    ·exact absurd h0 hc
    ·exact List.mem_cons_of_mem _ hy
   ·injection h with h
    subst h
    exact List.mem_cons_of_mem _ hy
theorem ins_none : ∀ {l : List S87}, Srt l → (ins z l = none ↔ ∃ y ∈ l, cp y z = 0 ∧ un y z = none)
 | [], _ => ⟨fun h => (by cases h), fun ⟨y, hy, _⟩ => (by cases hy)⟩
 | u :: l, hs => by
  obtain ⟨h1, h2⟩ := List.pairwise_cons.1 hs
  rw [ins_cons]
  by_cases hu : cp u z < 0
  ·rw [if_pos hu, Option.map_eq_none_iff, ins_none h2]
   constructor
   ·rintro ⟨y, hy, h⟩
    exact ⟨y, List.mem_cons_of_mem _ hy, h⟩
   ·rintro ⟨y, hy, h⟩
    rcases List.mem_cons.1 hy with rfl | hy
    ·have := h.1; omega
    ·exact ⟨y, hy, h⟩
  ·rw [if_neg hu]
   have hrest : cp u z ≥ 0 → ∀ y ∈ l, cp y z ≠ 0 := fun _ y hy h0 => by
    have h3 := h1 y hy
    have h4 := (cp_zero y z).1 h0
    rw [(cp_like h4.1 h4.2 u).1] at h3
    omega
   by_cases h0 : cp u z = 0
   ·rw [if_pos h0, Option.map_eq_none_iff]
    constructor
    ·intro h
     exact ⟨u, List.mem_cons_self .., h0, h⟩
    ·rintro ⟨y, hy, h⟩
     rcases List.mem_cons.1 hy with rfl | hy
     ·exact h.2
     ·exact absurd h.1 (hrest (by omega) y hy)
   ·rw [if_neg h0]
    constructor
    ·intro h; cases h
    ·rintro ⟨y, hy, h⟩
     rcases List.mem_cons.1 hy with rfl | hy
     ·exact absurd h.1 h0
     ·exact absurd h.1 (hrest (by omega) y hy)
theorem ins_other {l : List S87} (hs : Srt l) (h : ins x l = some m) (hc : cp x z ≠ 0) : ins z m = none ↔ ins z l = none := by
 rw [ins_none hs, ins_none (ins_srt hs h)]
 have sw : ∀ y, cp y z = 0 → cp y x ≠ 0 := fun y h0 h1 => by
  have h2 := (cp_zero y z).1 h0
  have h3 := (cp_zero y x).1 h1
  exact hc ((cp_zero x z).2 ⟨by rw [← h3.1, h2.1], by rw [← h3.2, h2.2]⟩)
 constructor
 ·rintro ⟨y, hy, h0, h1⟩
  rcases ins_mem2 h y hy with h2 | h2
  ·exact ⟨y, h2, h0, h1⟩
  ·exact absurd h2 (sw y h0)
 ·rintro ⟨y, hy, h0, h1⟩
  exact ⟨y, mem_ins (sw y h0) h hy, h0, h1⟩
theorem mdl_some : ∀ (lb la : List S87), Srt la → Srt lb → (∀ x ∈ lb, ins x la ≠ none) → ∃ m, mdl la lb = some m
 | [], la, _, _, _ => ⟨la, rfl⟩
 | x :: lb, la, hs, hb, h => by
  obtain ⟨h1, h2⟩ := List.pairwise_cons.1 hb
  cases hm : ins x la with
  | none => exact absurd hm (h x (List.mem_cons_self ..))
  | some m =>
   obtain ⟨r, hr⟩ := mdl_some lb m (ins_srt hs hm) h2 (fun z hz hn => h z (List.mem_cons_of_mem _ hz) ((ins_other hs hm (by have := h1 z hz; omega)).1 hn))
   exact ⟨r, by rw [mdl, hm, Option.bind_some, hr]⟩
theorem mdl_none : ∀ (lb la : List S87), Srt la → Srt lb → (∃ x ∈ lb, ins x la = none) → mdl la lb = none
 | [], la, _, _, ⟨x, hx, _⟩ => by cases hx
 | x :: lb, la, hs, hb, ⟨z, hz, hn⟩ => by
  obtain ⟨h1, h2⟩ := List.pairwise_cons.1 hb
  rw [mdl]
  cases hm : ins x la with
  | none => rfl
  | some m =>
   rw [Option.bind_some]
   rcases List.mem_cons.1 hz with rfl | hz
   ·rw [hn] at hm; cases hm
   ·exact mdl_none lb m (ins_srt hs hm) h2 ⟨z, hz, (ins_other hs hm (by have := h1 z hz; omega)).2 hn⟩
theorem anyF_eq (p : α → Option Bool) (c : α → Bool) : ∀ (l : List α) (i : Int), 0 ≤ i → (∀ x ∈ l, p x = some (c x)) → ∃ r, idxF p l i = some r ∧ decide (r ≥ 0) = l.any c
 | [], i, _, _ => ⟨-1, rfl, rfl⟩
 | x :: l, i, hi, h => by
  rw [idxF, h x (List.mem_cons_self ..), Option.bind_some, List.any_cons]
  cases hc : c x with
  | true => exact ⟨i, by rw [if_pos rfl], by simpa using hi⟩
  | false =>
   obtain ⟨r, h1, h2⟩ := anyF_eq p c l (i + 1) (by omega) (fun z hz => h z (List.mem_cons_of_mem _ hz))
   exact ⟨r, by rw [if_neg (by decide), h1], by rw [h2, Bool.false_or]⟩
theorem wrapsOne_eq (la : List S87) (hl : la.length < 1000000) (hs : Srt la) (hr : Rl la) (x : S87) (hx : Rng x.f2) (k : Nat) (hk : 3 ≤ k) : wrapsOne k la x = some (ins x la).isNone := by
 unfold wrapsOne
 rw [if_pos hl, bsT_eq x la hs k hk, Option.bind_some]
 have hle := pos_le x la
 cases hh : hit x la with
 | false =>
  simp only
  rw [if_neg (by decide), ins_new x la hh]
  rfl
 | true =>
  have hp : pos x la < la.length := by unfold hit at hh; simp at hh; exact hh.1
  simp only
  rw [if_pos trivial, if_pos (by omega)]
  have e : rd_T87 la (pos x la : Int) = la.getD (pos x la) z87 := by show la.getD (pos x la : Int).toNat z87 = _; rw [Int.toNat_natCast]
  rw [e, add_rng (rl_get hr hp) hx, Option.bind_some, ins_old x la hh]
  unfold un
  by_cases hc : num (la.getD (pos x la) z87).f2 + num x.f2 < top
  ·rw [if_pos hc, if_pos hc]; rfl
  ·rw [if_neg hc, if_neg hc]; rfl
theorem wraps_eq (a b : Int) (K : Int) (la lb : List S87) (hl : la.length < 1000000) (hs : Srt la) (hr : Rl la) (hb : Rl lb) (k : Nat) (hk : 3 ≤ k) : b_wraps.f k a b K la a b K lb = some (lb.any fun x => (ins x la).isNone) := by
 unfold b_wraps.f anyF
 obtain ⟨r, h1, h2⟩ := anyF_eq (wrapsOne k la) (fun x => (ins x la).isNone) lb 0 (Int.le_refl 0) (fun x hx => wrapsOne_eq la hl hs hr x (hb x hx) k hk)
 rw [h1, Option.bind_some, h2]
theorem merge_l0 (a b : Int) (K : Nat) (hK : K ≤ 1024) (lb : List S87) (hb : Rl lb) (hlb : lb.length ≤ 5000) (r : List S87) : ∀ m k i (l : List S87), lb.length = i + m → m + 10 < k → Srt l → Rl l → l.length ≤ K + 1 → mrg (K + 1) l (lb.drop i) = some r →
  b_Merge.l0 k lb (lb.length : Int) (i : Int) a b (K : Int) l = some (a, b, (K : Int), r, 0)
 | 0, k, i, l, hi, hk, hs, hr, hl, h => by
  obtain ⟨k, rfl⟩ : ∃ k', k = k' + 1 := ⟨k - 1, by omega⟩
  rw [List.drop_of_length_le (by omega), mrg] at h
  injection h with h
  subst h
  unfold b_Merge.l0
  rw [if_neg (by omega)]
 | m + 1, k, i, l, hi, hk, hs, hr, hl, h => by
  obtain ⟨k, rfl⟩ : ∃ k', k = k' + 1 := ⟨k - 1, by omega⟩
  have hi' : i < lb.length := by omega
  rw [List.drop_eq_getElem_cons hi', mrg, ← G_get hi'] at h
  obtain ⟨m1, h1, h2⟩ := Option.bind_eq_some_iff.1 h
  have hx : Rng (G lb i).f2 := by rw [G_get hi']; exact hb _ (List.getElem_mem hi')
  have ih := merge_l0 a b K hK lb hb hlb r m k (i + 1) (m1.take (K + 1)) (by omega) (by omega) (List.Pairwise.sublist (List.take_sublist _ _) (ins_srt hs h1)) (fun z hz => rl_ins hr hx h1 z (List.mem_of_mem_take hz)) (by rw [List.length_take]; omega) h2
  unfold b_Merge.l0
  rw [if_pos (by omega), if_pos (by omega), if_pos (by omega), G_rd, add_eq a b K hK l (by omega) hs hr (G lb i) hx k (by omega), h1, Option.bind_some, inc hi' (by omega)]
  exact ih
theorem merge_eq (a b : Int) (K : Nat) (la lb : List S87) (ha : Rt a b K la) (hb : Rt a b K lb) (hra : Rl la) (hrb : Rl lb) (k : Nat) (hk : 3000 ≤ k) :
  b_Merge.f k a b (K : Int) la a b (K : Int) lb = match mdl la lb with | some m => some (a, b, (K : Int), m.take (K + 1), 0) | none => some (0, 0, 0, [], 12) := by
 obtain ⟨k, rfl⟩ : ∃ k', k = k' + 1 := ⟨k - 1, by omega⟩
 have hK := ha.1.2
 have hla := ha.2.1
 have hlb := hb.2.1
 unfold b_Merge.f
 rw [right_eq a b K la (k + 1) (by omega), Option.bind_some, if_pos (yes_true ha), right_eq a b K lb (k + 1) (by omega), Option.bind_some, yes_true hb, b_Merge.j0, if_neg (by decide), if_neg (by simp), if_pos rfl, wraps_eq a b K la lb (by omega) ha.2.2.2 hra hrb k (by omega), Option.bind_some]
 cases hw : lb.any fun x => (ins x la).isNone with
 | true =>
  obtain ⟨x, hx, hn⟩ := List.any_eq_true.1 hw
  rw [if_pos rfl, mdl_none lb la ha.2.2.2 hb.2.2.2 ⟨x, hx, Option.isNone_iff_eq_none.1 hn⟩]
 | false =>
  obtain ⟨m, hm⟩ := mdl_some lb la ha.2.2.2 hb.2.2.2 (fun x hx hn => by
   have := List.any_eq_false.1 hw x hx
   rw [hn] at this
   exact this rfl)
  have h := mrg_mdl (K + 1) lb la m hm
  rw [List.take_of_length_le (by omega)] at h
  rw [if_neg (by decide), hm, show (0 : Int) = ((0 : Nat) : Int) from rfl, merge_l0 a b K (by omega) lb hrb (by omega) (m.take (K + 1)) lb.length k 0 la (by omega) (by omega) ha.2.2.2 hra (by omega) h]
  rfl
def cl (x : S42) : S77 := ⟨x.f0, x.f1, ⟨x.f2.f0, x.f2.f1, x.f2.f2.map cv⟩⟩
def E (l : List S77) (i : Nat) : S77 := l.getD i z77
theorem E_rd (l : List S77) (i : Nat) : rd_T77 l (i : Int) = E l i := by show l.getD (i : Int).toNat z77 = _; rw [Int.toNat_natCast]; rfl
theorem E_map (h : i < l.length) : E (l.map cl) i = cl (GL l i) := by
 unfold E
 rw [List.getD_eq_getElem?_getD, List.getElem?_eq_getElem (by simpa using h), GL_get h, List.getElem_map]
 rfl
theorem sref_l0 (l : List S42) (hn : l.length < 1954687338268) (B : Nat) (hB : ∀ x ∈ l, x.f2.f2.length < 3518437208883 ∧ x.f2.f2.length < B) (a b L K : Int) : ∀ m k i, l.length = i + m → m + B < k → l21_Ref.l0 k ((l.take i).map cl) l (l.length : Int) (i : Int) a b L K = some (a, b, L, K, l.map cl)
 | 0, k, i, hi, hk => by
  obtain ⟨k, rfl⟩ : ∃ k', k = k' + 1 := ⟨k - 1, by omega⟩
  unfold l21_Ref.l0
  rw [if_neg (by omega), List.take_of_length_le (by omega)]
 | m + 1, k, i, hi, hk => by
  obtain ⟨k, rfl⟩ : ∃ k', k = k' + 1 := ⟨k - 1, by omega⟩
  have ih := sref_l0 l hn B hB a b L K m k (i + 1) (by omega) (by omega)
  have hi' : i < l.length := by omega
  have hx := hB (GL l i) (by rw [GL_get hi']; exact List.getElem_mem hi')
  have hw : wrap64 ((i : Int) + 1) = ((i + 1 : Nat) : Int) := by unfold wrap64; omega
  have e : (l.take i).map cl ++ [cl (GL l i)] = (l.take (i + 1)).map cl := by
   rw [List.take_add_one, List.map_append, List.getElem?_eq_getElem hi', GL_get hi']
   rfl
  rw [← e] at ih
  unfold l21_Ref.l0 l21_sample.f
  rw [if_pos (by omega), if_pos (by omega), if_pos (by omega), GL_rd, refs_eq _ hx.1 k (by omega), Option.bind_some, Option.bind_some, if_pos (by rw [List.length_map, List.length_take]; omega), hw]
  exact ih
theorem sref_eq (l : List S42) (hn : l.length < 1954687338268) (B : Nat) (hB : ∀ x ∈ l, x.f2.f2.length < 3518437208883 ∧ x.f2.f2.length < B) (a b L K : Int) (k : Nat) (hk : l.length + B < k) : l21_Ref.f k a b L K l = some (a, b, L, K, l.map cl) := by
 unfold l21_Ref.f
 exact sref_l0 l hn B hB a b L K l.length k 0 (by omega) (by omega)
def Sm (x : S42) : Prop := x.f0.size ≤ 100 ∧ x.f2.f2.length ≤ 20 ∧ Small x.f2.f2
theorem ssmall_l0 (a b L K : Int) (l : List S42) (hn : l.length ≤ 12) : ∀ m k i, l.length = i + m → m + 61 < k → r21_Small.l0 k (i : Int) a b L K (l.map cl) = some (yes (∀ j, i ≤ j → j < l.length → Sm (GL l j)))
 | 0, k, i, hi, hk => by
  obtain ⟨k, rfl⟩ : ∃ k', k = k' + 1 := ⟨k - 1, by omega⟩
  unfold r21_Small.l0
  rw [List.length_map, if_neg (by omega), yes_true (fun j h1 h2 => by omega)]
 | m + 1, k, i, hi, hk => by
  obtain ⟨k, rfl⟩ : ∃ k', k = k' + 1 := ⟨k - 1, by omega⟩
  have ih := ssmall_l0 a b L K l hn m k (i + 1) (by omega) (by omega)
  have no : ∀ {P : Prop}, ¬ P → (Sm (GL l i) → P) → (some false : Option Bool) = some (yes (∀ j, i ≤ j → j < l.length → Sm (GL l j))) := fun h1 h2 => by rw [yes_false (fun hh => h1 (h2 (hh i (Nat.le_refl _) (by omega))))]
  unfold r21_Small.l0
  rw [List.length_map, if_pos (by omega), if_pos (by omega), E_rd, E_map (by omega)]
  by_cases h1 : ((cl (GL l i)).f0.size : Int) > 100
  ·rw [if_pos h1]; exact no (P := (GL l i).f0.size ≤ 100) (by have : ((GL l i).f0.size : Int) > 100 := h1; omega) (fun h => h.1)
  rw [if_neg h1]
  have e : ((cl (GL l i)).f2.f2.length : Int) = ((GL l i).f2.f2.length : Int) := by show (((GL l i).f2.f2.map cv).length : Int) = _; rw [List.length_map]
  rw [e]
  by_cases h2 : ((GL l i).f2.f2.length : Int) > 20
  ·rw [if_pos h2]; exact no (P := (GL l i).f2.f2.length ≤ 20) (by omega) (fun h => h.2.1)
  rw [if_neg h2, show (cl (GL l i)).f2.f2 = (GL l i).f2.f2.map cv from rfl, small_eq _ _ _ _ k (by omega), Option.bind_some]
  by_cases h3 : Small (GL l i).f2.f2
  ·rw [if_pos (yes_true h3), inc (show i < 12 by omega) (by omega), ih]
   congr 1
   apply yes_congr
   have h' : Sm (GL l i) := ⟨by have : ¬ ((GL l i).f0.size : Int) > 100 := h1; omega, by omega, h3⟩
   exact ⟨fun hh j p1 p2 => by rcases Nat.eq_or_lt_of_le p1 with e | e; exact e ▸ h'; exact hh j e p2, fun hh j p1 p2 => hh j (by omega) p2⟩
  ·rw [if_neg (by rw [yes_false h3]; decide)]; exact no h3 (fun h => h.2.2)
theorem ssmall_eq (a b L K : Int) (l : List S42) (k : Nat) (hk : 80 ≤ k) : r21_Small.f k a b L K (l.map cl) = some (yes (l.length ≤ 12 ∧ ∀ x ∈ l, Sm x)) := by
 unfold r21_Small.f
 rw [List.length_map]
 by_cases h : l.length ≤ 12
 ·rw [if_neg (by omega), show (0 : Int) = ((0 : Nat) : Int) from rfl, ssmall_l0 a b L K l h l.length k 0 (by omega) (by omega)]
  congr 1
  apply yes_congr
  constructor
  ·intro hh
   refine ⟨h, fun x hx => ?_⟩
   obtain ⟨j, hj, rfl⟩ := List.getElem_of_mem hx
   rw [← GL_get hj]
   exact hh j (Nat.zero_le _) hj
  ·intro hh j _ hj
   rw [GL_get hj]
   exact hh.2 _ (List.getElem_mem hj)
 ·rw [if_pos (by omega), yes_false (fun hh => h hh.1)]
theorem ssame_l0 (a b L K a' b' L' K' : Int) (l : List S42) (hn : l.length ≤ 100) (hl : ∀ x ∈ l, x.f2.f2.length ≤ 9000) : ∀ m k i, l.length = i + m → m + 9001 < k → r21_Same.l0 k (i : Int) a b L K (l.map cl) a' b' L' K' (l.map cl) = some true
 | 0, k, i, hi, hk => by
  obtain ⟨k, rfl⟩ : ∃ k', k = k' + 1 := ⟨k - 1, by omega⟩
  unfold r21_Same.l0
  rw [List.length_map, if_neg (by omega)]
 | m + 1, k, i, hi, hk => by
  obtain ⟨k, rfl⟩ : ∃ k', k = k' + 1 := ⟨k - 1, by omega⟩
  have ih := ssame_l0 a b L K a' b' L' K' l hn hl m k (i + 1) (by omega) (by omega)
  have hi' : i < l.length := by omega
  have hx := hl (GL l i) (by rw [GL_get hi']; exact List.getElem_mem hi')
  unfold r21_Same.l0
  rw [List.length_map, if_pos (by omega), if_pos (by omega), if_pos (by omega), E_rd, E_map hi', if_pos rfl, if_pos rfl, if_neg (by simp), if_pos rfl,
   rsame_eq _ _ (by show ((GL l i).f2.f2.map cv).length ≤ 9000; rw [List.length_map]; exact hx) k (by omega), Option.bind_some, if_pos (yes_true rfl), inc (show i < 100 by omega) (by omega), ih]
theorem ssame_eq (a b L K : Int) (l : List S42) (hn : l.length ≤ 100) (hl : ∀ x ∈ l, x.f2.f2.length ≤ 9000) (k : Nat) (hk : 9103 ≤ k) : r21_Same.f k a b L K (l.map cl) a b L K (l.map cl) = some true := by
 obtain ⟨k, rfl⟩ : ∃ k', k = k' + 1 := ⟨k - 1, by omega⟩
 unfold r21_Same.f
 rw [if_neg (by simp), if_pos rfl, if_pos rfl, r21_Same.j0, if_neg (by simp), show (0 : Int) = ((0 : Nat) : Int) from rfl]
 exact ssame_l0 a b L K a b L K l hn hl l.length k 0 (by omega) (by omega)
theorem ssame_none (a b L K : Int) (l : List S77) (k : Nat) (hk : 3 ≤ k) : ∃ s, r21_Same.f k a b L K l 0 0 0 0 [] = some s := by
 obtain ⟨k, rfl⟩ : ∃ k', k = k' + 1 + 1 := ⟨k - 2, by omega⟩
 have j : ∀ c : Bool, (c = false → l = []) → ∃ s, r21_Same.j0 (k + 1 + 1) c a b L K l 0 0 0 0 [] = some s := fun c hc => by
  rw [r21_Same.j0]
  by_cases h : c = true
  ·rw [if_pos h]; exact ⟨_, rfl⟩
  ·have := hc (by simpa using h)
   subst this
   rw [if_neg h, r21_Same.l0]
   exact ⟨_, if_neg (by simp)⟩
 unfold r21_Same.f
 split
 ·exact j true (fun h => by cases h)
 ·split
  ·split
   ·exact j _ (fun h => by simpa using h)
   ·exact j true (fun h => by cases h)
  ·exact j true (fun h => by cases h)
theorem ahead_eq (x y : S42) : r21_ahead.f x.f0 x.f1 x.f2.f0.f0 x.f2.f0.f1 x.f2.f1 (x.f2.f2.map cv) y.f0 y.f1 y.f2.f0.f0 y.f2.f0.f1 y.f2.f1 (y.f2.f2.map cv) = some (decide (cp (ky x) (ky y) < 0)) := by
 unfold r21_ahead.f
 show _ = some (decide ((if x.f1 < y.f1 then (-1 : Int) else if x.f1 > y.f1 then 1 else Lib.compareBytes x.f0.data.toList y.f0.data.toList) < 0))
 by_cases h : x.f1 = y.f1
 ·rw [if_pos h, if_neg (by omega), if_neg (by omega), Lib.toList_data, Lib.toList_data, cb_less]
 ·rw [if_neg h]
  by_cases h1 : x.f1 < y.f1
  ·rw [if_pos h1, decide_eq_true h1]; rfl
  ·rw [if_neg h1, if_pos (by omega), decide_eq_false h1]; rfl
theorem srr_l0 (a b L K : Int) (l : List S42) (hn : l.length ≤ 100) (hsz : ∀ x ∈ l, x.f0.size ≤ 100) : ∀ m k i, l.length = i + m → 2 * m + 2500 < k → r21_Right.l0 k (i : Int) a b L K (l.map cl) = some (yes (SAdj a b K l i))
 | 0, k, i, hi, hk => by
  obtain ⟨k, rfl⟩ : ∃ k', k = k' + 1 := ⟨k - 1, by omega⟩
  unfold r21_Right.l0
  rw [List.length_map, if_neg (by omega), yes_true (P := SAdj a b K l i) (fun j h1 h2 => by omega)]
 | m + 1, k, i, hi, hk => by
  obtain ⟨k, rfl⟩ : ∃ k', k = k' + 1 + 1 := ⟨k - 2, by omega⟩
  have ih := srr_l0 a b L K l hn hsz m k (i + 1) (by omega) (by omega)
  have hi' : i < l.length := by omega
  have hx := hsz (GL l i) (by rw [GL_get hi']; exact List.getElem_mem hi')
  have no : ∀ {P : Prop}, ¬ P → (SAdj a b K l i → P) → (some false : Option Bool) = some (yes (SAdj a b K l i)) := fun h1 h2 => by rw [yes_false (fun h => h1 (h2 h))]
  have at_ : SAdj a b K l i → Lb a b K (GL l i) := fun h => (h i (Nat.le_refl _) hi').1
  unfold r21_Right.l0
  rw [List.length_map, if_pos (by omega), if_pos (by omega), E_rd, E_map hi']
  have j2t : r21_Right.j2 (k + 1) (i : Int) true a b L K (l.map cl) (cl (GL l i)).f0 (cl (GL l i)).f1 (cl (GL l i)).f2.f0.f0 (cl (GL l i)).f2.f0.f1 (cl (GL l i)).f2.f1 (cl (GL l i)).f2.f2 = some false := by rw [r21_Right.j2, if_pos rfl]
  by_cases h1 : ((cl (GL l i)).f0.size : Int) > 64
  ·rw [if_pos h1, j2t]; exact no (P := (GL l i).f0.size ≤ 64) (by have : ((GL l i).f0.size : Int) > 64 := h1; omega) (fun h => (at_ h).1)
  rw [if_neg h1, Sip.ref_sum_eq a b (cl (GL l i)).f0 (by have : (cl (GL l i)).f0.size ≤ 100 := hx; omega) (k + 1) (by have : (cl (GL l i)).f0.size ≤ 100 := hx; omega), Option.bind_some]
  by_cases h2 : (cl (GL l i)).f1 = Sip.sum a b (cl (GL l i)).f0.data.toList
  rotate_left
  ·rw [if_neg h2, j2t]; exact no h2 (fun h => (at_ h).2.1)
  rw [if_pos h2, show (cl (GL l i)).f2.f2 = (GL l i).f2.f2.map cv from rfl, rright_eq _ _ _ _ (k + 1) (by omega), Option.bind_some]
  by_cases h3 : Rt (cl (GL l i)).f2.f0.f0 (cl (GL l i)).f2.f0.f1 (cl (GL l i)).f2.f1 (GL l i).f2.f2
  rotate_left
  ·rw [if_neg (by rw [yes_false h3]; decide)]
   rw [show (GL l i).f2.f2.map cv = (cl (GL l i)).f2.f2 from rfl, j2t]; exact no h3 (fun h => (at_ h).2.2.1)
  rw [if_pos (yes_true h3)]
  by_cases h4 : (cl (GL l i)).f2.f0.f0 = a ∧ (cl (GL l i)).f2.f0.f1 = b
  rotate_left
  ·rw [if_pos (by rw [← Bool.not_and, Bool.not_eq_true', ← Bool.not_eq_true]; simpa using h4)]
   rw [show (GL l i).f2.f2.map cv = (cl (GL l i)).f2.f2 from rfl, j2t]; exact no h4 (fun h => (at_ h).2.2.2.1)
  rw [if_neg (by simp [h4.1, h4.2])]
  by_cases h5 : (cl (GL l i)).f2.f1 = K
  rotate_left
  ·rw [if_neg h5]
   rw [show (GL l i).f2.f2.map cv = (cl (GL l i)).f2.f2 from rfl, j2t]; exact no h5 (fun h => (at_ h).2.2.2.2.1)
  rw [if_pos h5, r21_Right.j2, List.length_map]
  by_cases h6 : 0 < (GL l i).f2.f2.length
  rotate_left
  ·rw [if_pos (beq_iff_eq.mpr (by omega))]; exact no h6 (fun h => (at_ h).2.2.2.2.2)
  rw [if_neg (fun h => by have := beq_iff_eq.mp h; omega)]
  have hg : Lb a b K (GL l i) := ⟨by have : ¬ ((GL l i).f0.size : Int) > 64 := h1; omega, h2, h3, h4, h5, h6⟩
  have step : (0 < i → cp (ky (GL l (i - 1))) (ky (GL l i)) < 0) → (some (yes (SAdj a b K l (i + 1))) : Option Bool) = some (yes (SAdj a b K l i)) := fun h7 => by
   congr 1
   apply yes_congr
   exact ⟨fun hh j p1 p2 => by rcases Nat.eq_or_lt_of_le p1 with e | e; exact e ▸ ⟨hg, h7⟩; exact hh j e p2, fun hh j p1 p2 => hh j (by omega) p2⟩
  by_cases h0 : (i : Int) > 0
  ·have hw : wrap64 ((i : Int) - 1) = ((i - 1 : Nat) : Int) := by rw [w64 (by omega) (by omega)]; omega
   rw [if_pos h0, hw, if_pos (by omega), if_pos (by rw [List.length_map]; omega), E_rd, E_map (show i - 1 < l.length by omega)]
   show ((r21_ahead.f (GL l (i - 1)).f0 (GL l (i - 1)).f1 (GL l (i - 1)).f2.f0.f0 (GL l (i - 1)).f2.f0.f1 (GL l (i - 1)).f2.f1 ((GL l (i - 1)).f2.f2.map cv) (GL l i).f0 (GL l i).f1 (GL l i).f2.f0.f0 (GL l i).f2.f0.f1 (GL l i).f2.f1 ((GL l i).f2.f2.map cv)).bind _) = _
   rw [ahead_eq, Option.bind_some]
   by_cases h7 : cp (ky (GL l (i - 1))) (ky (GL l i)) < 0
   ·rw [decide_eq_true h7, if_pos rfl, inc (show i < 100 by omega) (by omega), ih]
    exact step (fun _ => h7)
   ·rw [decide_eq_false h7, if_neg (by decide)]
    exact no h7 (fun h => (h i (Nat.le_refl _) hi').2 (by omega))
  ·rw [if_neg h0, inc (show i < 100 by omega) (by omega), ih]
   exact step (fun h => by omega)
theorem srr_eq (a b L K : Int) (l : List S42) (hn : l.length ≤ 12) (hsz : ∀ x ∈ l, x.f0.size ≤ 100) (k : Nat) (hk : 3000 ≤ k) : r21_Right.f k a b L K (l.map cl) = some (yes (St a b L K l)) := by
 obtain ⟨k, rfl⟩ : ∃ k', k = k' + 1 := ⟨k - 1, by omega⟩
 have no : ¬ St a b L K l → r21_Right.j0 (k + 1) true a b L K (l.map cl) = some (yes (St a b L K l)) := fun h => by rw [r21_Right.j0, if_pos rfl, yes_false h]
 unfold r21_Right.f
 by_cases h1 : L < 1
 ·rw [if_pos h1]; exact no (fun h => by have := h.1.1; omega)
 rw [if_neg h1]
 by_cases h2 : L > 64
 ·rw [if_pos h2]; exact no (fun h => by have := h.1.2; omega)
 rw [if_neg h2]
 by_cases h3 : K < 1
 ·rw [if_pos h3]; exact no (fun h => by have := h.2.1.1; omega)
 rw [if_neg h3]
 by_cases h4 : K > 1024
 ·rw [if_pos h4]; exact no (fun h => by have := h.2.1.2; omega)
 rw [if_neg h4, List.length_map]
 by_cases h5 : (l.length : Int) > L
 ·rw [decide_eq_true h5]; exact no (fun h => by have := h.2.2.1; omega)
 rw [decide_eq_false h5, r21_Right.j0, if_neg (by decide), show (0 : Int) = ((0 : Nat) : Int) from rfl, srr_l0 a b L K l (by omega) hsz l.length k 0 (by omega) (by omega)]
 congr 1
 apply yes_congr
 rw [st_adj]
 exact ⟨fun h => ⟨⟨by omega, by omega⟩, ⟨by omega, by omega⟩, by omega, h.1, h.2⟩, fun h => ⟨h.2.2.2.1, h.2.2.2.2⟩⟩
def Hs (a b : Int) (l : List S42) : Prop := ∀ x ∈ l, x.f1 = H a b x.f0
def nk (a b : Int) (n : ByteArray) : S87 := kk n (H a b n)
theorem ky_nk {x : S42} (h : x.f1 = H a b x.f0) : ky x = nk a b x.f0 := by unfold ky nk; rw [h]
theorem cp_same {x : S42} (h : x.f1 = H a b x.f0) : cp (ky x) (nk a b n) = 0 ↔ x.f0 = n := by
 rw [cp_zero]
 constructor
 ·exact fun h1 => h1.2
 ·intro h1
  subst h1
  exact ⟨h, rfl⟩
theorem fnd_nil (x : S87) : fnd x [] = [] := by unfold fnd hit; simp
theorem fnd_lt (h : cp (ky y) x < 0) : fnd x (y :: l) = fnd x l := by
 unfold fnd hit
 rw [List.map_cons, pos, if_pos h]
 simp
theorem fnd_eq (h : cp (ky y) x = 0) : fnd x (y :: l) = y.f2.f2 := by
 have hp : pos x (ky y :: l.map ky) = 0 := by rw [pos, if_neg (by rw [h]; decide)]
 unfold fnd hit
 rw [List.map_cons, hp]
 simp [h]
theorem fnd_gt (h : 0 < cp (ky y) x) : fnd x (y :: l) = [] := by
 have hp : pos x (ky y :: l.map ky) = 0 := by rw [pos, if_neg (Int.not_lt.2 (Int.le_of_lt h))]
 unfold fnd hit
 rw [List.map_cons, hp]
 simp [Int.ne_of_gt h]
theorem fnd_none : ∀ {l : List S42}, (∀ z ∈ l, cp (ky z) x ≠ 0) → fnd x l = []
 | [], _ => fnd_nil x
 | y :: l, h => by
  have h0 := h y (List.mem_cons_self ..)
  rcases Int.lt_trichotomy (cp (ky y) x) 0 with h1 | h1 | h1
  ·rw [fnd_lt h1]; exact fnd_none (fun z hz => h z (List.mem_cons_of_mem _ hz))
  ·exact absurd h1 h0
  ·exact fnd_gt h1
theorem srt_head (hs : Srt ((y :: l).map ky)) : ∀ z ∈ l, cp (ky y) (ky z) < 0 := fun z hz => (List.pairwise_cons.1 hs).1 (ky z) (List.mem_map_of_mem hz)
theorem fnd_ne (hh : Hs a b (y :: l)) (hs : Srt ((y :: l).map ky)) (h : y.f0 ≠ n) : fnd (nk a b n) (y :: l) = fnd (nk a b n) l := by
 have h0 : cp (ky y) (nk a b n) ≠ 0 := fun h1 => h ((cp_same (hh y (List.mem_cons_self ..))).1 h1)
 rcases Int.lt_trichotomy (cp (ky y) (nk a b n)) 0 with h1 | h1 | h1
 ·exact fnd_lt h1
 ·exact absurd h1 h0
 ·rw [fnd_gt h1, fnd_none]
  intro z hz h2
  have e := (cp_same (hh z (List.mem_cons_of_mem _ hz))).1 h2
  have h3 := srt_head hs z hz
  rw [ky_nk (hh z (List.mem_cons_of_mem _ hz)), e] at h3
  omega
theorem drop_cons (h : i < l.length) : l.drop i = GL l i :: l.drop (i + 1) := by rw [GL_get h, List.drop_eq_getElem_cons h]
theorem hs_drop (h : Hs a b l) (i : Nat) : Hs a b (l.drop i) := fun x hx => h x (List.mem_of_mem_drop hx)
theorem srt_drop (h : Srt (l.map ky)) (i : Nat) : Srt ((l.drop i).map ky) := by rw [List.map_drop]; exact List.Pairwise.sublist (List.drop_sublist _ _) h
theorem rfind_l0 (a b L K : Int) (l : List S42) (hn : l.length ≤ 100) (hl : ∀ x ∈ l, Lb a b K x) (hs : Srt (l.map ky)) (n : ByteArray) : ∀ m k i, l.length = i + m → m < k → r21_Find.l0 k n (i : Int) a b L K (l.map cl) = some (a, b, K, (fnd (nk a b n) (l.drop i)).map cv)
 | 0, k, i, hi, hk => by
  obtain ⟨k, rfl⟩ : ∃ k', k = k' + 1 := ⟨k - 1, by omega⟩
  unfold r21_Find.l0
  rw [List.length_map, if_neg (by omega), List.drop_eq_nil_of_le (by omega), fnd_nil]
  rfl
 | m + 1, k, i, hi, hk => by
  obtain ⟨k, rfl⟩ : ∃ k', k = k' + 1 := ⟨k - 1, by omega⟩
  have hi' : i < l.length := by omega
  have ih := rfind_l0 a b L K l hn hl hs n m k (i + 1) (by omega) (by omega)
  have hx := hl (GL l i) (by rw [GL_get hi']; exact List.getElem_mem hi')
  have hh : Hs a b l := fun x hx => (hl x hx).2.1
  have hd := hs_drop hh i
  have sd := srt_drop hs i
  rw [drop_cons hi'] at hd sd ⊢
  unfold r21_Find.l0
  rw [List.length_map, if_pos (by omega), if_pos (by omega), E_rd, E_map hi']
  by_cases h : (cl (GL l i)).f0.toList = n.toList
  ·rw [if_pos h, fnd_eq ((cp_same hx.2.1).2 (list_inj h))]
   show some ((GL l i).f2.f0.f0, (GL l i).f2.f0.f1, (GL l i).f2.f1, (GL l i).f2.f2.map cv) = _
   rw [hx.2.2.2.1.1, hx.2.2.2.1.2, hx.2.2.2.2.1]
  ·rw [if_neg h, fnd_ne hd sd (fun e => h (by show (GL l i).f0.toList = _; rw [e])), inc (show i < 100 by omega) (by omega), ih]
theorem rfind_eq (a b L K : Int) (l : List S42) (hn : l.length ≤ 100) (hl : ∀ x ∈ l, Lb a b K x) (hs : Srt (l.map ky)) (n : ByteArray) (k : Nat) (hk : 101 ≤ k) : r21_Find.f k a b L K (l.map cl) n = some (a, b, K, (fnd (nk a b n) l).map cv) := by
 unfold r21_Find.f
 exact rfind_l0 a b L K l hn hl hs n l.length k 0 (by omega) (by omega)
theorem insS_lt {x : S42} (h : cp (ky y) (ky x) < 0) : insS x (y :: l) = y :: insS x l := by rw [insS, if_pos h]
theorem insS_eq {x : S42} (h : cp (ky y) (ky x) = 0) : insS x (y :: l) = x :: l := by rw [insS, if_neg (by omega), if_pos h]
theorem insS_gt {x : S42} (h : 0 < cp (ky y) (ky x)) : insS x (y :: l) = x :: y :: l := by rw [insS, if_neg (by omega), if_neg (by omega)]
theorem insS_all {x : S42} : ∀ {l : List S42}, (∀ z ∈ l, 0 < cp (ky z) (ky x)) → insS x l = x :: l
 | [], _ => rfl
 | y :: l, h => insS_gt (h y (List.mem_cons_self ..))
theorem insS_length (x : S42) : ∀ l : List S42, (insS x l).length ≤ l.length + 1
 | [] => Nat.le_refl _
 | y :: l => by
  rw [insS]
  split
  ·have := insS_length x l
   simp only [List.length_cons]
   omega
  ·split <;> simp only [List.length_cons] <;> omega
theorem insS_hs {x : S42} (h : Hs a b l) (hx : x.f1 = H a b x.f0) : Hs a b (insS x l) := fun z hz => by
 rcases insS_mem hz with h1 | h1
 ·exact h z h1
 ·rw [h1]; exact hx
theorem insS_srt {x : S42} (h : Srt (l.map ky)) : Srt ((insS x l).map ky) := by rw [insS_map]; exact insK_srt h
theorem insS_take (x : S42) : ∀ (l : List S42) (n : Nat), (insS x (l.take n)).take n = (insS x l).take n
 | [], n => by rw [List.take_nil]
 | y :: l, 0 => by simp
 | y :: l, n + 1 => by
  rw [List.take_succ_cons]
  unfold insS
  split
  ·rw [List.take_succ_cons, List.take_succ_cons, insS_take x l n]
  ·split
   ·rw [List.take_succ_cons, List.take_succ_cons, List.take_take, Nat.min_self]
   ·rw [List.take_succ_cons, List.take_succ_cons]
    cases n with
    | zero => simp
    | succ n => rw [List.take_succ_cons, List.take_succ_cons, List.take_take, Nat.min_eq_left (Nat.le_succ n)]
section
variable (a b L K : Int) (l : List S42) (x : S42)
def put0 (k : Nat) (done : Bool) (i : Nat) (out : List S77) := r21_Put.l0 k x.f0 200 done (i : Int) a b L K (l.map cl) x.f0 x.f1 x.f2.f0.f0 x.f2.f0.f1 x.f2.f1 (x.f2.f2.map cv) a b L K out
def put1 (k : Nat) (done : Bool) (i : Nat) (c : Bool) (out : List S77) := r21_Put.j1 k x.f0 200 done (i : Int) c a b L K (l.map cl) x.f0 x.f1 x.f2.f0.f0 x.f2.f0.f1 x.f2.f1 (x.f2.f2.map cv) a b L K out
theorem put1_no (k : Nat) (done : Bool) (i : Nat) (hi : i < l.length) (hn : l.length ≤ 100) (out : List S77) (ho : out.length ≤ 150) :
  put1 a b L K l x (k + 1) done i false out = put0 a b L K l x k done (i + 1) (if (GL l i).f0 = x.f0 then out else out ++ [cl (GL l i)]) := by
 unfold put1 put0
 rw [r21_Put.j1, if_neg (by decide), if_pos (by omega), if_pos (by rw [List.length_map]; omega), E_rd, E_map hi, inc (show i < 100 by omega) (by omega)]
 by_cases h : (GL l i).f0 = x.f0
 ·have e : (cl (GL l i)).f0.toList = x.f0.toList := by show (GL l i).f0.toList = _; rw [h]
  rw [if_pos e, if_pos h]
 ·have e : ¬ (cl (GL l i)).f0.toList = x.f0.toList := fun e => h (list_inj e)
  rw [if_neg e, if_pos (by omega), if_neg h]
  try rfl
theorem put1_yes (k : Nat) (done : Bool) (i : Nat) (hi : i < l.length) (hn : l.length ≤ 100) (out : List S77) (ho : out.length ≤ 150) :
  put1 a b L K l x (k + 1) done i true out = put0 a b L K l x k true (i + 1) (if (GL l i).f0 = x.f0 then out ++ [cl x] else out ++ [cl x] ++ [cl (GL l i)]) := by
 unfold put1 put0
 rw [r21_Put.j1, if_pos rfl, if_pos (by omega)]
 rw [Option.bind_some, if_pos (by omega), if_pos (by rw [List.length_map]; omega), E_rd, E_map hi, inc (show i < 100 by omega) (by omega)]
 by_cases h : (GL l i).f0 = x.f0
 ·have e : (cl (GL l i)).f0.toList = x.f0.toList := by show (GL l i).f0.toList = _; rw [h]
  rw [if_pos e, if_pos h]
  rfl
 ·have e : ¬ (cl (GL l i)).f0.toList = x.f0.toList := fun e => h (list_inj e)
  rw [if_neg e, if_pos (by rw [List.length_append]; simp only [List.length_cons, List.length_nil]; omega), if_neg h]
  rfl
theorem put0_done (hn : l.length ≤ 100) : ∀ m k i out, l.length = i + m → 2 * m < k → out.length ≤ i + 1 → (∀ z ∈ l.drop i, z.f0 ≠ x.f0) → put0 a b L K l x k true i out = some (a, b, L, K, out ++ (l.drop i).map cl)
 | 0, k, i, out, hi, hk, ho, hz => by
  obtain ⟨k, rfl⟩ : ∃ k', k = k' + 1 := ⟨k - 1, by omega⟩
  unfold put0
  rw [r21_Put.l0, List.length_map, if_neg (by omega), if_pos rfl, if_neg (by omega), List.drop_eq_nil_of_le (by omega), List.map_nil, List.append_nil]
 | m + 1, k, i, out, hi, hk, ho, hz => by
  obtain ⟨k, rfl⟩ : ∃ k', k = k' + 1 + 1 := ⟨k - 2, by omega⟩
  have hi' : i < l.length := by omega
  rw [drop_cons hi'] at hz
  have ih := put0_done hn m k (i + 1) (out ++ [cl (GL l i)]) (by omega) (by omega) (by simp only [List.length_append, List.length_cons, List.length_nil]; omega) (fun z h => hz z (List.mem_cons_of_mem _ h))
  have e : put0 a b L K l x (k + 1 + 1) true i out = put1 a b L K l x (k + 1) true i false out := by
   unfold put0 put1
   rw [r21_Put.l0, List.length_map, if_pos (by omega), if_pos rfl]
  rw [e, put1_no a b L K l x k true i hi' hn out (by omega), if_neg (hz _ (List.mem_cons_self ..)), ih, drop_cons hi', List.map_cons, List.append_assoc]
  rfl
theorem put0_eq (hn : l.length ≤ 100) (ha : Hs a b l) (hx : x.f1 = H a b x.f0) (hs : Srt (l.map ky)) : ∀ m k i out, l.length = i + m → 2 * m + 1 < k → out.length ≤ i → put0 a b L K l x k false i out = some (a, b, L, K, out ++ (insS x (l.drop i)).map cl)
 | 0, k, i, out, hi, hk, ho => by
  obtain ⟨k, rfl⟩ : ∃ k', k = k' + 1 := ⟨k - 1, by omega⟩
  unfold put0
  rw [r21_Put.l0, List.length_map, if_neg (by omega), if_neg (by decide), if_pos (by omega), List.drop_eq_nil_of_le (by omega)]
  rw [Option.bind_some, if_neg (by rw [List.length_append]; simp only [List.length_cons, List.length_nil]; omega)]
  rfl
 | m + 1, k, i, out, hi, hk, ho => by
  obtain ⟨k, rfl⟩ : ∃ k', k = k' + 1 + 1 := ⟨k - 2, by omega⟩
  have hi' : i < l.length := by omega
  have hd := hs_drop ha i
  have sd := srt_drop hs i
  rw [drop_cons hi'] at hd sd
  have hg := hd _ (List.mem_cons_self ..)
  have e : put0 a b L K l x (k + 1 + 1) false i out = put1 a b L K l x (k + 1) false i (decide (cp (ky x) (ky (GL l i)) < 0)) out := by
   unfold put0 put1
   rw [r21_Put.l0, List.length_map, if_pos (by omega), if_neg (by decide), if_pos (by omega), E_rd, E_map hi']
   show ((r21_ahead.f x.f0 x.f1 x.f2.f0.f0 x.f2.f0.f1 x.f2.f1 (x.f2.f2.map cv) (GL l i).f0 (GL l i).f1 (GL l i).f2.f0.f0 (GL l i).f2.f0.f1 (GL l i).f2.f1 ((GL l i).f2.f2.map cv)).bind _) = _
   rw [ahead_eq, Option.bind_some]
  have an := cp_anti (ky (GL l i)) (ky x)
  have kx : ky x = nk a b x.f0 := ky_nk hx
  rw [e, drop_cons hi']
  by_cases h : cp (ky x) (ky (GL l i)) < 0
  ·have hz : ∀ z ∈ GL l i :: l.drop (i + 1), z.f0 ≠ x.f0 := fun z hz e0 => by
    have e1 : ky z = ky x := by rw [ky_nk (hd z hz), e0, kx]
    rcases List.mem_cons.1 hz with h1 | h1
    ·rw [← h1, e1] at h; exact cp_irrefl _ h
    ·have h3 := srt_head sd z h1
     rw [e1] at h3
     omega
   rw [decide_eq_true h, put1_yes a b L K l x k false i hi' hn out (by omega), if_neg (hz _ (List.mem_cons_self ..)),
    put0_done a b L K l x hn m k (i + 1) _ (by omega) (by omega) (by simp only [List.length_append, List.length_cons, List.length_nil]; omega) (fun z h1 => hz z (List.mem_cons_of_mem _ h1)), insS_gt (by omega)]
   simp only [List.map_cons, List.append_assoc, List.cons_append, List.nil_append]
  ·rw [decide_eq_false h, put1_no a b L K l x k false i hi' hn out (by omega)]
   by_cases h1 : (GL l i).f0 = x.f0
   ·have e1 : ky (GL l i) = ky x := by rw [ky_nk hg, h1, kx]
    rw [if_pos h1, put0_eq hn ha hx hs m k (i + 1) out (by omega) (by omega) (by omega), insS_eq (by rw [e1, cp_zero]; exact ⟨rfl, rfl⟩)]
    rw [insS_all (fun z hz => by
     have h3 := srt_head sd z hz
     rw [e1, cp_anti] at h3
     omega)]
   ·have h2 : cp (ky (GL l i)) (ky x) ≠ 0 := fun h2 => h1 (by rw [kx] at h2; exact (cp_same hg).1 h2)
    rw [if_neg h1, put0_eq hn ha hx hs m k (i + 1) _ (by omega) (by omega) (by simp only [List.length_append, List.length_cons, List.length_nil]; omega), insS_lt (by omega), List.map_cons, List.append_assoc]
    rfl
theorem rput_eq (hn : l.length ≤ 100) (ha : Hs a b l) (hx : x.f1 = H a b x.f0) (hs : Srt (l.map ky)) (hsz : x.f0.size ≤ 100) (k : Nat) (hk : 300 ≤ k) :
  r21_Put.f k a b L K (l.map cl) x.f0 x.f2.f0.f0 x.f2.f0.f1 x.f2.f1 (x.f2.f2.map cv) 200 = some (a, b, L, K, (insS x l).map cl) := by
 unfold r21_Put.f
 rw [Sip.ref_sum_eq a b x.f0 (by omega) k (by omega), Option.bind_some]
 have h := put0_eq a b L K l x hn ha hx hs l.length k 0 [] (by omega) (by omega) (Nat.le_refl _)
 unfold put0 at h
 rw [hx] at h
 exact h
end
theorem rt_hd {K : Int} {l : List S87} (h : Rt a b K l) : Hd a b l := fun y hy => (h.2.2.1 y hy).2.1
theorem joined2 (a b : Int) (K : Nat) (la lb : List S87) (ha : Rt a b K la) (hb : Rt a b K lb) (hra : Rl la) (hrb : Rl lb) (h1 : la.length ≤ 100) (h2 : lb.length ≤ 100) (k : Nat) (hk : 300000 ≤ k) :
  r14_Joined.f k a b (la.map cv) (lb.map cv) ((K + 1 : Nat) : Int) = match mdl la lb with | some r => some ((r.take (K + 1)).map cv, true) | none => some ([], false) := by
 rw [joined_eq a b (la.map cv) (lb.map cv) (K + 1) (by rw [List.length_map, List.length_map]; omega) (fun y hy => by
  rcases List.mem_append.1 hy with hy | hy
  ·obtain ⟨z, hz, rfl⟩ := List.mem_map.1 hy
   exact ⟨by have := (ha.2.2.1 z hz).1; show z.f0.size ≤ 100; omega, hra z hz⟩
  ·obtain ⟨z, hz, rfl⟩ := List.mem_map.1 hy
   exact ⟨by have := (hb.2.2.1 z hz).1; show z.f0.size ≤ 100; omega, hrb z hz⟩) k (by rw [List.length_map, List.length_map]; omega)]
 rw [List.map_append, ent_cv (rt_hd ha), ent_cv (rt_hd hb), mdl_append, mdl_srt la [] (by rw [List.nil_append]; exact ha.2.2.2), Option.bind_some, List.nil_append]
 all_goals (cases mdl la lb <;> rfl)
theorem mdl_ok : ∀ (lb la m : List S87), (∀ x ∈ la, Ge a b x) → Rl la → Srt la → (∀ x ∈ lb, Ge a b x) → Rl lb → mdl la lb = some m → (∀ x ∈ m, Ge a b x) ∧ Rl m ∧ Srt m
 | [], la, m, h1, h2, h3, h4, h5, h => by rw [mdl] at h; injection h with h; subst h; exact ⟨h1, h2, h3⟩
 | x :: lb, la, m, h1, h2, h3, h4, h5, h => by
  rw [mdl] at h
  obtain ⟨m1, e1, e2⟩ := Option.bind_eq_some_iff.1 h
  obtain ⟨g1, g2⟩ := ins_ge h1 h2 (h4 x (List.mem_cons_self ..)) (h5 x (List.mem_cons_self ..)) e1
  exact mdl_ok lb m1 m g1 g2 (ins_srt h3 e1) (fun z hz => h4 z (List.mem_cons_of_mem _ hz)) (fun z hz => h5 z (List.mem_cons_of_mem _ hz)) e2
theorem mdl_pos : ∀ (lb la m : List S87), 0 < la.length ∨ 0 < lb.length → mdl la lb = some m → 0 < m.length
 | [], la, m, h0, h => by rw [mdl] at h; injection h with h; subst h; simpa using h0
 | x :: lb, la, m, h0, h => by
  rw [mdl] at h
  obtain ⟨m1, e1, e2⟩ := Option.bind_eq_some_iff.1 h
  exact mdl_pos lb m1 m (Or.inl (ins_some e1)) e2
section
variable (a b : Int) (K : Nat) (la : List S42)
def mg (y : S42) : Option S42 := (mdl (fnd (nk a b y.f0) la) y.f2.f2).map fun m => lab a b K y.f0 (m.take (K + 1))
def fr : List S42 → List S42 → Option (List S42)
 | out, [] => some out
 | out, y :: ys => (mg a b K la y).bind fun z => fr (insS z out) ys
def fp (L : Nat) : List S42 → List S42 → Option (List S42)
 | out, [] => some out
 | out, y :: ys => (mg a b K la y).bind fun z => fp L ((insS z out).take L) ys
theorem fp_fr (L : Nat) : ∀ (ys out : List S42), fp a b K la L (out.take L) ys = (fr a b K la out ys).map (·.take L)
 | [], out => rfl
 | y :: ys, out => by
  rw [fp, fr]
  cases mg a b K la y with
  | none => rfl
  | some z =>
   show fp a b K la L ((insS z (out.take L)).take L) ys = (fr a b K la (insS z out) ys).map (·.take L)
   rw [insS_take, fp_fr L ys]
variable {a b K la}
theorem mg_ok {z : S42} (hl : ∀ x ∈ la, Lb a b (K : Int) x) (hr : Rs la) (hK : 1 ≤ (K : Int) ∧ (K : Int) ≤ 1024) (hy : Lb a b (K : Int) y) (hyr : Rl y.f2.f2) (h : mg a b K la y = some z) : Lb a b (K : Int) z ∧ Rl z.f2.f2 := by
 unfold mg at h
 obtain ⟨m, e, rfl⟩ := Option.map_eq_some_iff.1 h
 have hf := fnd_like (x := nk a b y.f0) hl hK
 have hy3 : Rt a b (K : Int) y.f2.f2 := by have := hy.2.2.1; rw [hy.2.2.2.1.1, hy.2.2.2.1.2, hy.2.2.2.2.1] at this; exact this
 obtain ⟨g1, g2, g3⟩ := mdl_ok _ _ _ hf.2.2.1 (fnd_rl hr) hf.2.2.2 hy3.2.2.1 hyr e
 have g4 := mdl_pos _ _ _ (Or.inr hy.2.2.2.2.2) e
 have g5 : Rt a b (K : Int) (m.take (K + 1)) := ⟨hK, by rw [List.length_take]; omega, fun x hx => g1 x (List.mem_of_mem_take hx), List.Pairwise.sublist (List.take_sublist _ _) g3⟩
 have g6 : 0 < (m.take (K + 1)).length := by rw [List.length_take]; omega
 have g7 : Rl (m.take (K + 1)) := fun x hx => g2 x (List.mem_of_mem_take hx)
 unfold Lb
 rw [lab_f0, lab_f1, lab_f2]
 exact ⟨⟨hy.1, rfl, g5, ⟨rfl, rfl⟩, rfl, g6⟩, g7⟩
theorem fr_ok (hl : ∀ x ∈ la, Lb a b (K : Int) x) (hr : Rs la) (hK : 1 ≤ (K : Int) ∧ (K : Int) ≤ 1024) : ∀ (ys out r : List S42), (∀ y ∈ ys, Lb a b (K : Int) y ∧ Rl y.f2.f2) → (∀ x ∈ out, Lb a b (K : Int) x) → fr a b K la out ys = some r → ∀ x ∈ r, Lb a b (K : Int) x
 | [], out, r, h1, h2, h => by rw [fr] at h; injection h with h; subst h; exact h2
 | y :: ys, out, r, h1, h2, h => by
  rw [fr] at h
  obtain ⟨z, e1, e2⟩ := Option.bind_eq_some_iff.1 h
  have hy := h1 y (List.mem_cons_self ..)
  have hz := mg_ok hl hr hK hy.1 hy.2 e1
  refine fr_ok hl hr hK ys _ r (fun y hy => h1 y (List.mem_cons_of_mem _ hy)) (fun x hx => ?_) e2
  rcases insS_mem hx with h3 | h3
  ·exact h2 x h3
  ·rw [h3]; exact hz.1
end
theorem lab_self (hy : Lb a b (K : Int) y) : lab a b K y.f0 (y.f2.f2.take (K + 1)) = y := by
 have h1 := hy.2.1
 have h2 := hy.2.2.2.1
 have h3 := hy.2.2.2.2.1
 have h4 := hy.2.2.1.2.1
 rw [h3] at h4
 rw [List.take_of_length_le (by omega)]
 obtain ⟨n, u, ⟨⟨p, q⟩, k, l⟩⟩ := y
 simp only at h1 h2 h3
 obtain ⟨rfl, rfl⟩ := h2
 subst h3
 unfold lab
 rw [h1]
def mres (a b : Int) (L K : Nat) : Option (List S42) → Int × Int × Int × Int × List S42 × Int
 | some r => (a, b, (L : Int), (K : Int), r, 0)
 | none => (0, 0, 0, 0, [], 12)
theorem smerge_l0 (hA : St a b L K la) (hr : Rs la) (hB : ∀ y ∈ lb, Lb a b (K : Int) y ∧ Rl y.f2.f2) (hlb : lb.length ≤ 64) : ∀ m k i out, lb.length = i + m → m + 3100 < k → St a b L K out → Rs out →
  s_Merge.l0 k lb (lb.length : Int) (i : Int) a b (L : Int) (K : Int) la a b (L : Int) (K : Int) out = some (mres a b L K (fp a b K la L out (lb.drop i)))
 | 0, k, i, out, hi, hk, ho, hor => by
  obtain ⟨k, rfl⟩ : ∃ k', k = k' + 1 := ⟨k - 1, by omega⟩
  unfold s_Merge.l0
  rw [if_neg (by omega), List.drop_eq_nil_of_le (by omega)]
  rfl
 | m + 1, k, i, out, hi, hk, ho, hor => by
  obtain ⟨k, rfl⟩ : ∃ k', k = k' + 1 := ⟨k - 1, by omega⟩
  have hi' : i < lb.length := by omega
  obtain ⟨hy, hyr⟩ := hB (GL lb i) (by rw [GL_get hi']; exact List.getElem_mem hi')
  have hy3 : Rt a b (K : Int) (GL lb i).f2.f2 := by have := hy.2.2.1; rw [hy.2.2.2.1.1, hy.2.2.2.1.2, hy.2.2.2.2.1] at this; exact this
  have hL := ho.1.2
  have hlo := ho.2.2.1
  have next : ∀ z, mg a b K la (GL lb i) = some z → ((s_put.f k a b (L : Int) (K : Int) out z.f0 z.f1 z.f2.f0.f0 z.f2.f0.f1 z.f2.f1 z.f2.f2).bind fun d => s_Merge.l0 k lb (lb.length : Int) (wrap64 ((i : Int) + 1)) a b (L : Int) (K : Int) la d.1 d.2.1 d.2.2.1 d.2.2.2.1 d.2.2.2.2) = some (mres a b L K (fp a b K la L out (GL lb i :: lb.drop (i + 1)))) := fun z hz => by
   obtain ⟨g1, g2⟩ := mg_ok hA.2.2.2.1 hr hA.2.1 hy hyr hz
   obtain ⟨p1, p2⟩ := st_put ho hor g1 g2
   rw [sput_eq a b K L out (by omega) ho.2.2.2.2 z k (by omega), Option.bind_some, inc (show i < 64 by omega) (by omega), fp, hz, Option.bind_some]
   exact smerge_l0 hA hr hB hlb m k (i + 1) _ (by omega) (by omega) p1 p2
  unfold s_Merge.l0
  rw [if_pos (by omega), if_pos (by omega), if_pos (by omega), GL_rd, sfind_eq hA (GL lb i).f0 hy.1 k (by omega), Option.bind_some, drop_cons hi']
  simp only
  by_cases hh : hit (nk a b (GL lb i).f0) (la.map ky) = true
  ·have hh' : hit (kk (GL lb i).f0 (H a b (GL lb i).f0)) (la.map ky) = true := hh
   rw [if_pos hh', hy.2.2.2.1.1, hy.2.2.2.1.2, hy.2.2.2.2.1]
   have me := merge_eq a b K (fnd (nk a b (GL lb i).f0) la) (GL lb i).f2.f2 (fnd_like hA.2.2.2.1 hA.2.1) hy3 (fnd_rl hr) hyr k (by omega)
   have me' : b_Merge.f k a b (K : Int) (fnd (kk (GL lb i).f0 (H a b (GL lb i).f0)) la) a b (K : Int) (GL lb i).f2.f2 = _ := me
   rw [me']
   cases hm : mdl (fnd (nk a b (GL lb i).f0) la) (GL lb i).f2.f2 with
   | none =>
    rw [fp, show mg a b K la (GL lb i) = none by unfold mg; rw [hm]; rfl]
    rfl
   | some r =>
    have hz : mg a b K la (GL lb i) = some (lab a b K (GL lb i).f0 (r.take (K + 1))) := by unfold mg; rw [hm]; rfl
    have nx := next _ hz
    simp only [Option.bind_some]
    rw [if_pos trivial, hy.2.1]
    exact nx
  ·have hh' : ¬ hit (kk (GL lb i).f0 (H a b (GL lb i).f0)) (la.map ky) = true := hh
   rw [if_neg hh']
   have hz : mg a b K la (GL lb i) = some (GL lb i) := by
    unfold mg
    rw [show fnd (nk a b (GL lb i).f0) la = [] by unfold fnd; rw [if_neg hh], mdl_srt _ [] (by rw [List.nil_append]; exact hy3.2.2.2), List.nil_append, Option.map_some, lab_self hy]
   exact next _ hz
theorem smerge_eq (hA : St a b L K la) (hB : St a b L K lb) (hr : Rs la) (hrb : Rs lb) (k : Nat) (hk : 4000 ≤ k) :
  s_Merge.f k a b (L : Int) (K : Int) la a b (L : Int) (K : Int) lb = some (mres a b L K ((fr a b K la la lb).map (·.take L))) := by
 obtain ⟨k, rfl⟩ : ∃ k', k = k' + 1 := ⟨k - 1, by omega⟩
 have h1 := hA.2.2.1
 have h2 := hB.2.2.1
 have h3 := hA.1.2
 unfold s_Merge.f
 rw [sRight_eq a b L K la (k + 1) (by omega), Option.bind_some, if_pos (yes_true hA), sRight_eq a b L K lb (k + 1) (by omega), Option.bind_some, yes_true hB, s_Merge.j0, if_neg (by decide), if_neg (by simp), if_pos rfl, if_pos rfl,
  show (0 : Int) = ((0 : Nat) : Int) from rfl, smerge_l0 hA hr (fun y hy => ⟨hB.2.2.2.1 y hy, hrb y hy⟩) (by omega) lb.length k 0 la (by omega) (by omega) hA hr, ← fp_fr a b K la L lb la, List.take_of_length_le (by omega), List.drop_zero]
theorem smerge_bad (a b L K a' b' L' K' : Int) (la lb : List S42) (h : ¬ (St a b L K la ∧ St a' b' L' K' lb)) (k : Nat) (hk : 4000 ≤ k) : s_Merge.f k a b L K la a' b' L' K' lb = some (0, 0, 0, 0, [], 1) := by
 obtain ⟨k, rfl⟩ : ∃ k', k = k' + 1 := ⟨k - 1, by omega⟩
 unfold s_Merge.f
 rw [sRight_eq a b L K la (k + 1) (by omega), Option.bind_some]
 by_cases ha : St a b L K la
 ·rw [if_pos (yes_true ha), sRight_eq a' b' L' K' lb (k + 1) (by omega), Option.bind_some, yes_false (fun hb => h ⟨ha, hb⟩), s_Merge.j0]
  rfl
 ·rw [if_neg (by rw [yes_false ha]; decide), s_Merge.j0, if_pos rfl]
theorem smerge_seed (a b L K a' b' L' K' : Int) (la lb : List S42) (hA : St a b L K la) (hB : St a' b' L' K' lb) (h : ¬ (a = a' ∧ b = b')) (k : Nat) (hk : 4000 ≤ k) : s_Merge.f k a b L K la a' b' L' K' lb = some (0, 0, 0, 0, [], 9) := by
 obtain ⟨k, rfl⟩ : ∃ k', k = k' + 1 := ⟨k - 1, by omega⟩
 unfold s_Merge.f
 rw [sRight_eq a b L K la (k + 1) (by omega), Option.bind_some, if_pos (yes_true hA), sRight_eq a' b' L' K' lb (k + 1) (by omega), Option.bind_some, yes_true hB, s_Merge.j0, if_neg (by decide), if_pos (by rw [← Bool.not_and, Bool.not_eq_true', ← Bool.not_eq_true]; simpa using h)]
theorem smerge_kind (a b L K L' K' : Int) (la lb : List S42) (hA : St a b L K la) (hB : St a b L' K' lb) (h : ¬ (L = L' ∧ K = K')) (k : Nat) (hk : 4000 ≤ k) : s_Merge.f k a b L K la a b L' K' lb = some (0, 0, 0, 0, [], 10) := by
 obtain ⟨k, rfl⟩ : ∃ k', k = k' + 1 := ⟨k - 1, by omega⟩
 unfold s_Merge.f
 rw [sRight_eq a b L K la (k + 1) (by omega), Option.bind_some, if_pos (yes_true hA), sRight_eq a b L' K' lb (k + 1) (by omega), Option.bind_some, yes_true hB, s_Merge.j0, if_neg (by decide), if_neg (by simp)]
 by_cases h1 : L = L'
 ·rw [if_pos h1, if_neg (fun h2 => h ⟨h1, h2⟩)]
 ·rw [if_neg h1]
def dres (a b : Int) (L K : Nat) : Option (List S42) → Int × Int × Int × Int × List S77 × Int
 | some r => (a, b, (L : Int), (K : Int), (r.take L).map cl, 0)
 | none => (0, 0, 0, 0, [], 12)
theorem rmerge_l0 (hA : St a b L K la) (hr : Rs la) (hB : ∀ y ∈ lb, Lb a b (K : Int) y ∧ Rl y.f2.f2) (hla : la.length ≤ 12) (hlb : lb.length ≤ 12) (sa : ∀ x ∈ la, x.f2.f2.length ≤ 100) (sb : ∀ x ∈ lb, x.f2.f2.length ≤ 100) :
  ∀ m k i out, lb.length = i + m → m + 300100 < k → Hs a b out → Srt (out.map ky) → out.length ≤ 12 + i →
  r21_Merge.l0 k (i : Int) a b (L : Int) (K : Int) (la.map cl) a b (L : Int) (K : Int) (lb.map cl) a b (L : Int) (K : Int) (out.map cl) = some (dres a b L K (fr a b K la out (lb.drop i)))
 | 0, k, i, out, hi, hk, ho, hs, hn => by
  obtain ⟨k, rfl⟩ : ∃ k', k = k' + 1 := ⟨k - 1, by omega⟩
  unfold r21_Merge.l0
  rw [List.length_map, if_neg (by omega), List.length_map, List.drop_eq_nil_of_le (by omega), fr]
  by_cases h : (out.length : Int) > (L : Int)
  ·rw [if_pos h, if_pos (by omega), if_pos (by omega), Int.toNat_natCast, ← List.map_take]
   rfl
  ·rw [if_neg h]
   show _ = some (a, b, (L : Int), (K : Int), (out.take L).map cl, 0)
   rw [List.take_of_length_le (by omega)]
 | m + 1, k, i, out, hi, hk, ho, hs, hn => by
  obtain ⟨k, rfl⟩ : ∃ k', k = k' + 1 := ⟨k - 1, by omega⟩
  have hi' : i < lb.length := by omega
  have hmem : GL lb i ∈ lb := by rw [GL_get hi']; exact List.getElem_mem hi'
  obtain ⟨hy, hyr⟩ := hB (GL lb i) hmem
  have hy3 : Rt a b (K : Int) (GL lb i).f2.f2 := by have := hy.2.2.1; rw [hy.2.2.2.1.1, hy.2.2.2.1.2, hy.2.2.2.2.1] at this; exact this
  have hf : (fnd (nk a b (GL lb i).f0) la).length ≤ 100 := by
   unfold fnd
   split
   ·rename_i hh
    exact sa _ (hit_at hh).2.1
   ·exact Nat.zero_le _
  have hK := hA.2.1
  have ew : wrap64 ((K : Int) + 1) = ((K + 1 : Nat) : Int) := by rw [w64 (by omega) (by omega)]; rfl
  unfold r21_Merge.l0
  rw [List.length_map, if_pos (by omega), if_pos (by omega), E_rd, E_map hi']
  rw [show r21_Find.f k a b (L : Int) (K : Int) (la.map cl) (cl (GL lb i)).f0 = _ from rfind_eq a b L K la (by omega) hA.2.2.2.1 hA.2.2.2.2 (GL lb i).f0 k (by omega), Option.bind_some]
  simp only
  rw [ew, show r14_Joined.f k a b ((fnd (nk a b (GL lb i).f0) la).map cv) (cl (GL lb i)).f2.f2 ((K + 1 : Nat) : Int) = _ from joined2 a b K _ _ (fnd_like hA.2.2.2.1 hA.2.1) hy3 (fnd_rl hr) hyr hf (sb _ hmem) k (by omega), drop_cons hi', fr]
  cases hm : mdl (fnd (nk a b (GL lb i).f0) la) (GL lb i).f2.f2 with
  | none =>
   rw [show mg a b K la (GL lb i) = none by unfold mg; rw [hm]; rfl]
   simp only [Option.bind_some]
   rw [if_neg (by decide)]
   rfl
  | some r =>
   have hz : mg a b K la (GL lb i) = some (lab a b K (GL lb i).f0 (r.take (K + 1))) := by unfold mg; rw [hm]; rfl
   rw [hz]
   simp only [Option.bind_some]
   rw [if_pos trivial]
   have e := rput_eq a b (L : Int) (K : Int) out (lab a b K (GL lb i).f0 (r.take (K + 1))) (by omega) ho (by rw [lab_f1, lab_f0]) hs (by rw [lab_f0]; have := hy.1; omega) k (by omega)
   rw [lab_f0, lab_f2] at e
   rw [show r21_Put.f k a b (L : Int) (K : Int) (out.map cl) (cl (GL lb i)).f0 a b (K : Int) ((r.take (K + 1)).map cv) 200 = _ from e, Option.bind_some, inc (show i < 12 by omega) (by omega)]
   exact rmerge_l0 hA hr hB hla hlb sa sb m k (i + 1) _ (by omega) (by omega) (insS_hs ho (by rw [lab_f1, lab_f0])) (insS_srt hs) (by have := insS_length (lab a b K (GL lb i).f0 (r.take (K + 1))) out; omega)
theorem rmerge_eq (hA : St a b L K la) (hB : St a b L K lb) (hr : Rs la) (hrb : Rs lb) (hla : la.length ≤ 12) (hlb : lb.length ≤ 12) (sa : ∀ x ∈ la, x.f2.f2.length ≤ 100) (sb : ∀ x ∈ lb, x.f2.f2.length ≤ 100) (k : Nat) (hk : 300200 ≤ k) :
  r21_Merge.f k a b (L : Int) (K : Int) (la.map cl) a b (L : Int) (K : Int) (lb.map cl) = some (dres a b L K (fr a b K la la lb)) := by
 unfold r21_Merge.f
 have h := rmerge_l0 hA hr (fun y hy => ⟨hB.2.2.2.1 y hy, hrb y hy⟩) hla hlb sa sb lb.length k 0 la (by omega) (by omega) (fun x hx => (hA.2.2.2.1 x hx).2.1) hA.2.2.2.2 (by omega)
 rw [List.drop_zero] at h
 exact h
end Go.Proofs.Ytpbiobbddgipkaa.Bo
