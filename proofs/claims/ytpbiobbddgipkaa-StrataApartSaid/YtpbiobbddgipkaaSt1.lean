/- Chapter 21 in plain Lean, part 1: entries and samples, as in chapter 14. -/
import Derived.Test.YtpbiobbddgipkaaHx5
import Derived.Test.YtpbiobbddgipkaaHx7
import Derived.Test.YtpbiobbddgipkaaHx8
import Derived.Test.YtpbiobbddgipkaaHx6
import Derived.Test.YtpbiobbddgipkaaSip
set_option linter.unusedVariables false
set_option linter.unusedSimpArgs false
namespace Go.Proofs.Ytpbiobbddgipkaa.Bo
open Go.RowKit Go.Proofs.Ytpbiobbddgipkaa.H Go.Proofs.YtpbiobbddgipkaaW.PrintWords Go.Proofs.YtpbiobbddgipkaaW.PrintMore

noncomputable def yes (P : Prop) : Bool := @decide P (Classical.propDecidable P)
theorem yes_iff {P : Prop} : yes P = true ↔ P := @decide_eq_true_iff P (Classical.propDecidable P)
theorem yes_true {P : Prop} (h : P) : yes P = true := yes_iff.2 h
theorem yes_false {P : Prop} (h : ¬ P) : yes P = false := by
  cases hb : yes P with
  | false => rfl
  | true => exact absurd (yes_iff.1 hb) h
theorem yes_congr {P Q : Prop} (h : P ↔ Q) : yes P = yes Q := by rw [propext h]
theorem w64 {x : Int} (h0 : -1000000 ≤ x) (h1 : x ≤ 1000000) : wrap64 x = x := by unfold wrap64; omega
theorem inc {i n : Nat} (h : i < n) (hn : n ≤ 10000) : wrap64 ((i : Int) + 1) = ((i + 1 : Nat) : Int) := by rw [w64 (by omega) (by omega)]; omega
theorem list_inj {a b : ByteArray} (h : a.toList = b.toList) : a = b := by
  rw [Lib.toList_data, Lib.toList_data] at h
  exact ByteArray.ext (Array.toList_inj.1 h)
theorem list_iff (a b : ByteArray) : a.toList = b.toList ↔ a = b := ⟨list_inj, fun h => by rw [h]⟩
theorem cb_eq : ∀ a b : List UInt8, Lib.compareBytes a b = 0 ↔ a = b
  | [], [] => by simp [Lib.compareBytes]
  | [], _ :: _ => by simp [Lib.compareBytes]
  | _ :: _, [] => by simp [Lib.compareBytes]
  | a :: x, b :: y => by
    unfold Lib.compareBytes
    have ih := cb_eq x y
    split
    · rename_i h
      constructor
      · intro h2; omega
      · intro h2; injection h2 with e _; subst e; exact absurd h (UInt8.lt_irrefl a)
    · split
      · rename_i h
        constructor
        · intro h2; omega
        · intro h2; injection h2 with e _; subst e; exact absurd h (UInt8.lt_irrefl a)
      · rename_i h1 h2
        have e : a = b := by
          apply UInt8.toNat_inj.1
          rw [UInt8.lt_iff_toNat_lt] at h1 h2
          omega
        subst e
        rw [ih]
        simp
theorem cb_anti : ∀ a b : List UInt8, Lib.compareBytes b a = - Lib.compareBytes a b
  | [], [] => by simp [Lib.compareBytes]
  | [], _ :: _ => by simp [Lib.compareBytes]
  | _ :: _, [] => by simp [Lib.compareBytes]
  | a :: x, b :: y => by
    unfold Lib.compareBytes
    have ih := cb_anti x y
    by_cases h1 : a < b
    · have h2 : ¬ b < a := fun h => by rw [UInt8.lt_iff_toNat_lt] at h h1; omega
      rw [if_neg h2, if_pos h1, if_pos h1]; rfl
    · by_cases h2 : b < a
      · rw [if_pos h2, if_neg h1, if_pos h2]
      · rw [if_neg h2, if_neg h1, if_neg h1, if_neg h2, ih]
theorem cb_less : ∀ a b : List UInt8, Op.bytesLess a b = decide (Lib.compareBytes a b < 0)
  | [], [] => by simp [Lib.compareBytes, Op.bytesLess]
  | [], _ :: _ => by simp [Lib.compareBytes, Op.bytesLess]
  | _ :: _, [] => by simp [Lib.compareBytes, Op.bytesLess]
  | a :: x, b :: y => by
    unfold Lib.compareBytes Op.bytesLess
    have ih := cb_less x y
    by_cases h1 : a < b
    · rw [if_pos h1]; simp [h1]
    · by_cases h2 : b < a
      · have h3 : (a == b) = false := by rw [beq_eq_false_iff_ne]; rintro rfl; exact absurd h2 h1
        rw [if_neg h1, if_pos h2]; simp [h1, h3]
      · have h3 : a = b := by
          apply UInt8.toNat_inj.1
          rw [UInt8.lt_iff_toNat_lt] at h1 h2
          omega
        subst h3
        rw [if_neg h1, if_neg h1, ih]; simp [h1]
theorem cb_trans : ∀ a b c : List UInt8, Lib.compareBytes a b < 0 → Lib.compareBytes b c < 0 → Lib.compareBytes a c < 0
  | [], [], _ => by simp [Lib.compareBytes]
  | [], _ :: _, [] => by simp [Lib.compareBytes]
  | [], _ :: _, _ :: _ => by simp [Lib.compareBytes]
  | _ :: _, [], _ => by simp [Lib.compareBytes]
  | _ :: _, _ :: _, [] => by simp [Lib.compareBytes]
  | a :: x, b :: y, c :: z => by
    have ih := cb_trans x y z
    unfold Lib.compareBytes
    simp only [UInt8.lt_iff_toNat_lt]
    intro h1 h2
    split at h1
    · split at h2
      · rw [if_pos (by omega)]; decide
      · split at h2
        · omega
        · rw [if_pos (by omega)]; decide
    · split at h1
      · omega
      · split at h2
        · rw [if_pos (by omega)]; decide
        · split at h2
          · omega
          · rw [if_neg (by omega), if_neg (by omega)]
            exact ih h1 h2
def cp (y x : S87) : Int := if y.f1 < x.f1 then -1 else if y.f1 > x.f1 then 1 else Lib.compareBytes y.f0.data.toList x.f0.data.toList
theorem cp_zero (y x : S87) : cp y x = 0 ↔ y.f1 = x.f1 ∧ y.f0 = x.f0 := by
  unfold cp
  split
  · exact ⟨fun h => by omega, fun h => by omega⟩
  · split
    · exact ⟨fun h => by omega, fun h => by omega⟩
    · rw [cb_eq]
      exact ⟨fun h => ⟨by omega, ByteArray.ext (Array.toList_inj.1 h)⟩, fun h => by rw [h.2]⟩
theorem cp_anti (y x : S87) : cp x y = - cp y x := by
  unfold cp
  by_cases h1 : y.f1 < x.f1
  · rw [if_neg (by omega), if_pos h1, if_pos h1]; rfl
  · by_cases h2 : y.f1 > x.f1
    · rw [if_pos h2, if_neg h1, if_pos h2]
    · rw [if_neg h2, if_neg (by omega), if_neg h1, if_neg h2, cb_anti]
theorem cp_trans {x y z : S87} (h1 : cp x y < 0) (h2 : cp y z < 0) : cp x z < 0 := by
  unfold cp at *
  split at h1
  · split at h2
    · rw [if_pos (by omega)]; decide
    · split at h2
      · omega
      · rw [if_pos (by omega)]; decide
  · split at h1
    · omega
    · split at h2
      · rw [if_pos (by omega)]; decide
      · split at h2
        · omega
        · rw [if_neg (by omega), if_neg (by omega)]
          exact cb_trans _ _ _ h1 h2
theorem cp_irrefl (x : S87) : ¬ cp x x < 0 := by rw [(cp_zero x x).2 ⟨rfl, rfl⟩]; decide
theorem cp_like {x x' : S87} (h1 : x.f1 = x'.f1) (h0 : x.f0 = x'.f0) (y : S87) : cp y x = cp y x' ∧ cp x y = cp x' y := by
  unfold cp
  rw [h1, h0]
  exact ⟨rfl, rfl⟩
theorem or_eq (k : Nat) (a b : Int) : cmp_Or_int.f (k + 3) [a, b] = some (if a = 0 then b else a) := by
  have e1 : wrap64 (0 + 1) = 1 := by unfold wrap64; omega
  have e2 : wrap64 (1 + 1) = 2 := by unfold wrap64; omega
  show cmp_Or_int.l0 (k + 3) 0 [a, b] 2 0 = _
  unfold cmp_Or_int.l0
  rw [if_pos (by decide), if_pos (by decide), if_pos (show (0 : Int) < (([a, b] : List Int).length : Int) by simp), show rd [a, b] 0 = a from rfl, e1]
  by_cases h : a = 0
  · rw [if_pos h, if_pos h]
    unfold cmp_Or_int.l0
    rw [if_pos (by decide), if_pos (by decide), if_pos (show (1 : Int) < (([a, b] : List Int).length : Int) by simp), show rd [a, b] 1 = b from rfl, e2]
    by_cases h2 : b = 0
    · rw [if_pos h2]
      unfold cmp_Or_int.l0
      rw [if_neg (by decide), h2]
    · rw [if_neg h2]
  · rw [if_neg h, if_neg h]
theorem compare_eq (y x : S87) (k : Nat) (hk : 3 ≤ k) : bottom_compare.f k y.f0 y.f1 y.f2.f0 y.f2.f1 x.f0 x.f1 x.f2.f0 x.f2.f1 = some (cp y x) := by
  obtain ⟨k, rfl⟩ : ∃ k', k = k' + 3 := ⟨k - 3, by omega⟩
  have hc : cmp_Compare_uint64.f y.f1 x.f1 = some (if y.f1 < x.f1 then -1 else if y.f1 > x.f1 then 1 else 0) := by
    unfold cmp_Compare_uint64.f cmp_isNaN_uint64.f
    simp only [bne_self_eq_false, Option.bind_some]
    rw [if_neg (by decide), if_neg (by decide)]
    split
    · rfl
    · split <;> rfl
  unfold bottom_compare.f
  rw [hc, Option.bind_some]
  unfold strings_Compare.f bytealg_CompareString.f
  rw [Option.bind_some, Option.bind_some, or_eq, Option.bind_some]
  unfold cp
  split
  · rw [if_neg (by decide)]
  · split
    · rw [if_neg (by decide)]
    · rw [if_pos rfl]
def Srt (l : List S87) : Prop := l.Pairwise fun y x => cp y x < 0
def pos (x : S87) : List S87 → Nat
  | [] => 0
  | y :: l => if cp y x < 0 then pos x l + 1 else 0
theorem pos_le (x : S87) : ∀ l, pos x l ≤ l.length
  | [] => Nat.le_refl _
  | y :: l => by
    have := pos_le x l
    unfold pos
    split
    · simp only [List.length_cons]; omega
    · omega
theorem pos_lo (x : S87) : ∀ (l : List S87) (m : Nat), m < pos x l → cp (l.getD m z87) x < 0
  | [], m, h => absurd h (Nat.not_lt_zero _)
  | y :: l, m, h => by
    unfold pos at h
    split at h
    · rename_i hy
      cases m with
      | zero => exact hy
      | succ m => exact pos_lo x l m (by omega)
    · exact absurd h (Nat.not_lt_zero _)
theorem srt_ge {x y : S87} {l : List S87} (hs : Srt (y :: l)) (h : ¬ cp y x < 0) : ∀ z ∈ l, ¬ cp z x < 0 := fun z hz hzx => by
  have := (List.pairwise_cons.1 hs).1 z hz
  exact h (cp_trans this hzx)
theorem pos_hi (x : S87) : ∀ (l : List S87), Srt l → ∀ m, pos x l ≤ m → m < l.length → ¬ cp (l.getD m z87) x < 0
  | [], _, m, _, h => absurd h (Nat.not_lt_zero _)
  | y :: l, hs, m, h, hm => by
    unfold pos at h
    split at h
    · obtain ⟨m, rfl⟩ : ∃ m', m = m' + 1 := ⟨m - 1, by omega⟩
      exact pos_hi x l (List.pairwise_cons.1 hs).2 m (by omega) (by simpa using hm)
    · rename_i hy
      cases m with
      | zero => exact hy
      | succ m =>
        have hm' : m < l.length := by simpa using hm
        refine srt_ge hs hy _ ?_
        show l.getD m z87 ∈ l
        rw [List.getD_eq_getElem?_getD, List.getElem?_eq_getElem hm']
        exact List.getElem_mem hm'
theorem bsF_eq {α : Type} (p : α → Option Int) (l : List α) (d : α) (c : Nat → Int) (hp : ∀ m, m < l.length → p (l.getD m d) = some (c m)) (b : Nat) (hlo : ∀ m, m < b → c m < 0) (hhi : ∀ m, b ≤ m → m < l.length → ¬ c m < 0) :
    ∀ (n i j : Nat), i ≤ b → b ≤ j → j ≤ l.length → j - i ≤ n → bsF p l d n (i : Int) (j : Int) = some (b : Int)
  | 0, i, j, h1, h2, h3, h4 => by
    rw [bsF, if_neg (by omega)]
    congr 1; omega
  | n + 1, i, j, h1, h2, h3, h4 => by
    rw [bsF]
    by_cases h : i < j
    · rw [if_pos (by omega)]
      have e : ((i : Int) + j) / 2 = ((i + j) / 2 : Nat) := by omega
      rw [e, Int.toNat_natCast, hp _ (by omega), Option.bind_some]
      by_cases hc : c ((i + j) / 2) < 0
      · rw [if_pos hc]
        have hb : (i + j) / 2 < b := by
          rcases Nat.lt_or_ge ((i + j) / 2) b with h5 | h5
          · exact h5
          · exact absurd hc (hhi _ h5 (by omega))
        have := bsF_eq p l d c hp b hlo hhi n ((i + j) / 2 + 1) j (by omega) h2 h3 (by omega)
        simpa using this
      · rw [if_neg hc]
        have hb : b ≤ (i + j) / 2 := by
          rcases Nat.lt_or_ge ((i + j) / 2) b with h5 | h5
          · exact absurd (hlo _ h5) hc
          · exact h5
        exact bsF_eq p l d c hp b hlo hhi n i ((i + j) / 2) h1 hb (by omega) (by omega)
    · rw [if_neg (by omega)]
      congr 1; omega
def hit (x : S87) (l : List S87) : Bool := decide (pos x l < l.length) && decide (cp (l.getD (pos x l) z87) x = 0)
theorem bsT_eq (x : S87) (l : List S87) (hs : Srt l) (k : Nat) (hk : 3 ≤ k) :
    bsT (fun y => bottom_compare.f k y.f0 y.f1 y.f2.f0 y.f2.f1 x.f0 x.f1 x.f2.f0 x.f2.f1) l z87 = some ((pos x l : Int), hit x l) := by
  unfold bsT
  have h := bsF_eq (fun y => bottom_compare.f k y.f0 y.f1 y.f2.f0 y.f2.f1 x.f0 x.f1 x.f2.f0 x.f2.f1) l z87 (fun m => cp (l.getD m z87) x) (fun m _ => compare_eq _ x k hk) (pos x l) (pos_lo x l) (pos_hi x l hs) l.length 0 l.length (Nat.zero_le _) (pos_le x l) (Nat.le_refl _) (by omega)
  rw [show ((0 : Nat) : Int) = 0 from rfl] at h
  rw [h, Option.bind_some]
  unfold hit
  by_cases hp : pos x l < l.length
  · rw [if_pos (by omega), Int.toNat_natCast]
    simp only
    rw [compare_eq _ x k hk, Option.bind_some]
    simp [hp]
  · rw [if_neg (by omega)]
    simp [hp]
def num (c : S65) : Int := c.f0 * 18446744073709551616 + c.f1
def Rng (c : S65) : Prop := (0 ≤ c.f0 ∧ c.f0 < 18446744073709551616) ∧ (0 ≤ c.f1 ∧ c.f1 < 18446744073709551616)
def mkU (n : Int) : S65 := ⟨n / 18446744073709551616, n % 18446744073709551616⟩
def top : Int := 340282366920938463463374607431768211456
theorem num_mkU (n : Int) : num (mkU n) = n := by unfold num mkU; simp only; omega
theorem mkU_num {c : S65} (h : Rng c) : mkU (num c) = c := by
  obtain ⟨a, b⟩ := c
  unfold num mkU
  obtain ⟨⟨h1, h2⟩, h3, h4⟩ := h
  simp only at *
  congr 1 <;> omega
theorem rng_mkU {n : Int} (h0 : 0 ≤ n) (h1 : n < top) : Rng (mkU n) := by unfold Rng mkU; unfold top at h1; simp only; omega
theorem num_nonneg {c : S65} (h : Rng c) : 0 ≤ num c := by obtain ⟨⟨h1, h2⟩, h3, h4⟩ := h; unfold num; omega
theorem num_top {c : S65} (h : Rng c) : num c < top := by obtain ⟨⟨h1, h2⟩, h3, h4⟩ := h; unfold num top; omega
theorem num_inj {c d : S65} (hc : Rng c) (hd : Rng d) (h : num c = num d) : c = d := by rw [← mkU_num hc, ← mkU_num hd, h]
theorem num_zero {c : S65} (h : Rng c) : num c = 0 ↔ c.f0 = 0 ∧ c.f1 = 0 := by
  obtain ⟨⟨h1, h2⟩, h3, h4⟩ := h
  unfold num
  constructor
  · intro h; omega
  · rintro ⟨h5, h6⟩; rw [h5, h6]; rfl
theorem add_rng {a b c d : Int} (h1 : Rng ⟨a, b⟩) (h2 : Rng ⟨c, d⟩) : wide_Add.f a b c d = some (if num ⟨a, b⟩ + num ⟨c, d⟩ < top then ((mkU (num ⟨a, b⟩ + num ⟨c, d⟩)).f0, (mkU (num ⟨a, b⟩ + num ⟨c, d⟩)).f1, true) else (0, 0, false)) := by
  obtain ⟨⟨p1, p2⟩, p3, p4⟩ := h1
  obtain ⟨⟨q1, q2⟩, q3, q4⟩ := h2
  simp only at p1 p2 p3 p4 q1 q2 q3 q4
  unfold wide_Add.f
  rw [if_pos ⟨p1, p2, p3, p4, q1, q2, q3, q4⟩]
  unfold num mkU top
  simp only
  by_cases h : a + c + (b + d) / 18446744073709551616 < 18446744073709551616
  · rw [if_pos h, if_pos (by omega)]
    congr 2
    · omega
    · congr 1
      omega
  · rw [if_neg h, if_neg (by omega)]
def un (y x : S87) : Option S87 := if num y.f2 + num x.f2 < top then some ⟨y.f0, y.f1, mkU (num y.f2 + num x.f2)⟩ else none
def ins (x : S87) : List S87 → Option (List S87)
  | [] => some [x]
  | y :: l => if cp y x < 0 then (ins x l).map (y :: ·) else if cp y x = 0 then (un y x).map (· :: l) else some (x :: y :: l)
theorem ins_new (x : S87) : ∀ l : List S87, hit x l = false → ins x l = some (l.take (pos x l) ++ [x] ++ l.drop (pos x l))
  | [], _ => rfl
  | y :: l, h => by
    unfold ins
    unfold hit pos at h
    unfold pos
    split
    · rename_i hy
      rw [if_pos hy] at h
      have ih := ins_new x l (by unfold hit; simpa using h)
      rw [ih]
      rfl
    · rename_i hy
      rw [if_neg hy] at h
      have h0 : ¬ cp y x = 0 := by intro h0; simp [h0] at h
      rw [if_neg h0]
      rfl
theorem ins_old (x : S87) : ∀ l : List S87, hit x l = true → ins x l = (un (l.getD (pos x l) z87) x).map fun z => l.set (pos x l) z
  | [], h => by unfold hit at h; simp at h
  | y :: l, h => by
    unfold ins
    unfold hit pos at h
    unfold pos
    split
    · rename_i hy
      rw [if_pos hy] at h
      have ih := ins_old x l (by unfold hit; simpa using h)
      rw [ih, Option.map_map]
      rfl
    · rename_i hy
      rw [if_neg hy] at h
      have h0 : cp y x = 0 := by simpa using h
      rw [if_pos h0]
      rfl
def Rl (l : List S87) : Prop := ∀ y ∈ l, Rng y.f2
theorem rl_get {l : List S87} (h : Rl l) {m : Nat} (hm : m < l.length) : Rng (l.getD m z87).f2 := by
  rw [List.getD_eq_getElem?_getD, List.getElem?_eq_getElem hm]
  exact h _ (List.getElem_mem hm)
theorem cut_eq (a b : Int) (K : Nat) (hK : K ≤ 1024) (m : List S87) : bottom_add.cut a b (K : Int) m = some (a, b, (K : Int), m.take (K + 1), 0) := by
  unfold bottom_add.cut
  rw [w64 (by omega) (by omega), if_pos (by omega)]
  congr 4
  congr 1
  rcases Nat.le_total m.length (K + 1) with h | h
  · rw [show (min (m.length : Int) ((K : Int) + 1)).toNat = m.length by omega, List.take_of_length_le (Nat.le_refl _), List.take_of_length_le h]
  · rw [show (min (m.length : Int) ((K : Int) + 1)).toNat = K + 1 by omega]
def res (a b : Int) (K : Nat) (l : List S87) : Option (List S87) → Int × Int × Int × List S87 × Int
  | some m => (a, b, (K : Int), m.take (K + 1), 0)
  | none => (a, b, (K : Int), l, 12)
theorem add_eq (a b : Int) (K : Nat) (hK : K ≤ 1024) (l : List S87) (hl : l.length < 1000000) (hs : Srt l) (hr : Rl l) (x : S87) (hx : Rng x.f2) (k : Nat) (hk : 3 ≤ k) :
    bottom_add.f k a b (K : Int) l x.f0 x.f1 x.f2.f0 x.f2.f1 = some (res a b K l (ins x l)) := by
  unfold bottom_add.f
  rw [if_pos hl, bsT_eq x l hs k hk, Option.bind_some]
  have hle := pos_le x l
  cases hh : hit x l with
  | false =>
    simp only
    rw [if_neg (by decide), if_pos (by omega), Int.toNat_natCast, cut_eq a b K hK, ins_new x l hh]
    rfl
  | true =>
    have hp : pos x l < l.length := by unfold hit at hh; simp at hh; exact hh.1
    simp only
    rw [if_pos trivial, if_pos (by omega)]
    have e : rd_T87 l (pos x l : Int) = l.getD (pos x l) z87 := by show l.getD (pos x l : Int).toNat z87 = _; rw [Int.toNat_natCast]
    rw [e, add_rng (rl_get hr hp) hx, Option.bind_some, ins_old x l hh]
    unfold un
    by_cases hc : num (l.getD (pos x l) z87).f2 + num x.f2 < top
    · rw [if_pos hc, if_pos hc]
      simp only
      rw [if_pos trivial, Int.toNat_natCast, cut_eq a b K hK]
      rfl
    · rw [if_neg hc, if_neg hc]
      simp only
      rw [if_neg (by decide)]
      rfl
def G (l : List S87) (i : Nat) : S87 := l.getD i z87
theorem G_rd (l : List S87) (i : Nat) : rd_T87 l (i : Int) = G l i := by show l.getD (i : Int).toNat z87 = _; rw [Int.toNat_natCast]; rfl
theorem G_get {l : List S87} {i : Nat} (h : i < l.length) : G l i = l[i] := by unfold G; rw [List.getD_eq_getElem?_getD, List.getElem?_eq_getElem h]; rfl
def H (a b : Int) (key : ByteArray) : Int := Sip.sum a b key.data.toList
theorem H_rng (a b : Int) (key : ByteArray) : 0 ≤ H a b key ∧ H a b key < 18446744073709551616 := by
  unfold H Sip.sum Sip.fin Sip.out4 Sip.xr
  exact Sip.bits_range _ _ _
def Ge (a b : Int) (x : S87) : Prop := x.f0.size ≤ 64 ∧ x.f1 = H a b x.f0 ∧ ¬ (x.f2.f0 = 0 ∧ x.f2.f1 = 0)
def Adj (a b : Int) (l : List S87) (i : Nat) : Prop := ∀ j, i ≤ j → j < l.length → Ge a b (G l j) ∧ (0 < j → cp (G l (j - 1)) (G l j) < 0)
theorem right_l0 (a b K : Int) (l : List S87) (hn : l.length ≤ 1025) : ∀ m k i, l.length = i + m → m + 30 < k → bottom_Right.l0 k l (l.length : Int) (i : Int) a b K l = some (yes (Adj a b l i))
  | 0, k, i, hi, hk => by
    obtain ⟨k, rfl⟩ : ∃ k', k = k' + 1 := ⟨k - 1, by omega⟩
    unfold bottom_Right.l0
    rw [if_neg (by omega), yes_true (P := Adj a b l i) (fun j h1 h2 => by omega)]
  | m + 1, k, i, hi, hk => by
    obtain ⟨k, rfl⟩ : ∃ k', k = k' + 1 := ⟨k - 1, by omega⟩
    have ih := right_l0 a b K l hn m k (i + 1) (by omega) (by omega)
    have hi' : i < l.length := by omega
    unfold bottom_Right.l0
    rw [if_pos (by omega), if_pos (by omega), if_pos (by omega), G_rd]
    have no : ∀ {P : Prop}, ¬ P → (Adj a b l i → P) → (some false : Option Bool) = some (yes (Adj a b l i)) := fun h1 h2 => by rw [yes_false (fun h => h1 (h2 h))]
    by_cases h1 : ((G l i).f0.size : Int) > 64
    · rw [if_pos h1]
      exact no (P := (G l i).f0.size ≤ 64) (by omega) (fun h => (h i (Nat.le_refl _) hi').1.1)
    · rw [if_neg h1, Sip.sum_eq a b (G l i).f0 (by omega) k (by omega), Option.bind_some]
      by_cases h2 : (G l i).f1 = Sip.sum a b (G l i).f0.data.toList
      · rw [if_pos h2]
        by_cases h3 : (G l i).f2.f0 = 0 ∧ (G l i).f2.f1 = 0
        · rw [if_pos (by simp [h3.1, h3.2])]
          exact no (P := ¬ ((G l i).f2.f0 = 0 ∧ (G l i).f2.f1 = 0)) (fun h => h h3) (fun h => (h i (Nat.le_refl _) hi').1.2.2)
        · rw [if_neg (by simpa using h3)]
          have hg : Ge a b (G l i) := ⟨by omega, h2, h3⟩
          have step : (0 < i → cp (G l (i - 1)) (G l i) < 0) → some (yes (Adj a b l (i + 1))) = some (yes (Adj a b l i)) := fun hc => by
            congr 1
            apply yes_congr
            exact ⟨fun hh j h1 h2 => by rcases Nat.eq_or_lt_of_le h1 with e | e; exact e ▸ ⟨hg, hc⟩; exact hh j e h2, fun hh j h1 h2 => hh j (by omega) h2⟩
          rw [inc hi' (by omega), ih]
          by_cases h4 : i = 0
          · rw [if_neg (by omega)]
            exact step (fun h => by omega)
          · have e : wrap64 ((i : Int) - 1) = ((i - 1 : Nat) : Int) := by rw [w64 (by omega) (by omega)]; omega
            rw [if_pos (by omega), e, if_pos (by omega), if_pos (by omega), G_rd, compare_eq _ _ k (by omega), Option.bind_some]
            by_cases h5 : cp (G l (i - 1)) (G l i) ≥ 0
            · rw [if_pos h5]
              exact no (P := cp (G l (i - 1)) (G l i) < 0) (by omega) (fun h => (h i (Nat.le_refl _) hi').2 (by omega))
            · rw [if_neg h5]
              exact step (fun _ => by omega)
      · rw [if_neg h2]
        exact no (P := (G l i).f1 = H a b (G l i).f0) h2 (fun h => (h i (Nat.le_refl _) hi').1.2.1)
def Rt (a b K : Int) (l : List S87) : Prop := (1 ≤ K ∧ K ≤ 1024) ∧ (l.length : Int) ≤ K + 1 ∧ (∀ x ∈ l, Ge a b x) ∧ Srt l
theorem adj_srt : ∀ (l : List S87), (∀ j, 0 < j → j < l.length → cp (G l (j - 1)) (G l j) < 0) → Srt l
  | [], _ => List.Pairwise.nil
  | y :: l, h => by
    have ih := adj_srt l (fun j h1 h2 => by
      have := h (j + 1) (by omega) (by simpa using h2)
      rw [Nat.add_sub_cancel] at this
      obtain ⟨j, rfl⟩ : ∃ j', j = j' + 1 := ⟨j - 1, by omega⟩
      exact this)
    refine List.pairwise_cons.2 ⟨fun z hz => ?_, ih⟩
    cases l with
    | nil => cases hz
    | cons u l =>
      have h1 : cp y u < 0 := h 1 (by omega) (by simp)
      rcases List.mem_cons.1 hz with rfl | hz
      · exact h1
      · exact cp_trans h1 ((List.pairwise_cons.1 ih).1 z hz)
theorem rt_adj (a b : Int) (l : List S87) : Adj a b l 0 ↔ (∀ x ∈ l, Ge a b x) ∧ Srt l := by
  constructor
  · intro h
    refine ⟨fun x hx => ?_, adj_srt l (fun j h1 h2 => (h j (Nat.zero_le _) h2).2 h1)⟩
    obtain ⟨j, hj, rfl⟩ := List.getElem_of_mem hx
    rw [← G_get hj]
    exact (h j (Nat.zero_le _) hj).1
  · rintro ⟨h1, h2⟩ j _ hj
    refine ⟨by rw [G_get hj]; exact h1 _ (List.getElem_mem hj), fun h0 => ?_⟩
    rw [G_get hj, G_get (by omega)]
    exact List.pairwise_iff_getElem.1 h2 (j - 1) j (by omega) hj (by omega)
theorem right_eq (a b K : Int) (l : List S87) (k : Nat) (hk : 1100 ≤ k) : bottom_Right.f k a b K l = some (yes (Rt a b K l)) := by
  obtain ⟨k, rfl⟩ : ∃ k', k = k' + 1 := ⟨k - 1, by omega⟩
  have no : ¬ Rt a b K l → bottom_Right.j0 (k + 1) true a b K l = some (yes (Rt a b K l)) := fun h => by rw [bottom_Right.j0, if_pos rfl, yes_false h]
  unfold bottom_Right.f
  by_cases h1 : K < 1
  · rw [if_pos h1]
    exact no (fun h => by have := h.1.1; omega)
  · rw [if_neg h1]
    by_cases h2 : K > 1024
    · rw [if_pos h2]
      exact no (fun h => by have := h.1.2; omega)
    · rw [if_neg h2, w64 (by omega) (by omega)]
      by_cases h3 : (l.length : Int) > K + 1
      · rw [decide_eq_true h3]
        exact no (fun h => by have := h.2.1; omega)
      · rw [decide_eq_false h3, bottom_Right.j0, if_neg (by decide), show (0 : Int) = ((0 : Nat) : Int) from rfl, right_l0 a b K l (by omega) l.length k 0 (by omega) (by omega)]
        congr 1
        apply yes_congr
        rw [rt_adj]
        exact ⟨fun h => ⟨⟨by omega, by omega⟩, by omega, h⟩, fun h => h.2.2⟩
def en (a b : Int) (key : ByteArray) (n : Int) : S87 := ⟨key, H a b key, ⟨0, n⟩⟩
theorem en_rng {a b : Int} {key : ByteArray} {n : Int} (h0 : 0 ≤ n) (h1 : n ≤ 18446744073709551615) : Rng (en a b key n).f2 := ⟨⟨by show (0 : Int) ≤ 0; omega, by show (0 : Int) < _; omega⟩, h0, by show n < _; omega⟩
theorem Add_eq (a b : Int) (K : Nat) (l : List S87) (h : Rt a b K l) (hr : Rl l) (key : ByteArray) (n : Int) (hs : key.size ≤ 64) (h0 : 0 < n) (h1 : n ≤ 18446744073709551615) (k : Nat) (hk : 1100 ≤ k) :
    bottom_Add.f k a b (K : Int) l key n = some (res a b K l (ins (en a b key n) l)) := by
  have hl : l.length ≤ 1025 := by have := h.1; have := h.2.1; omega
  unfold bottom_Add.f
  rw [right_eq a b K l k hk, Option.bind_some, if_pos (yes_true h), if_neg (by omega), if_neg (by omega), Sip.sum_eq a b key (by omega) k (by omega), Option.bind_some]
  unfold wide_Of.f
  rw [Option.bind_some]
  have := add_eq a b K (by have := h.1.2; omega) l (by omega) h.2.2.2 hr (en a b key n) (en_rng (by omega) h1) k (by omega)
  simp only
  rw [show bottom_add.f k a b (K : Int) l key (Sip.sum a b key.data.toList) 0 n = _ from this, Option.bind_some]
theorem un_like {y x z : S87} (h : un y x = some z) : z.f0 = y.f0 ∧ z.f1 = y.f1 ∧ num z.f2 = num y.f2 + num x.f2 := by
  unfold un at h
  split at h
  · injection h with h
    subst h
    exact ⟨rfl, rfl, num_mkU _⟩
  · cases h
theorem un_rng {y x z : S87} (hy : Rng y.f2) (hx : Rng x.f2) (h : un y x = some z) : Rng z.f2 := by
  unfold un at h
  split at h
  · rename_i ht
    injection h with h
    subst h
    have := num_nonneg hy
    have := num_nonneg hx
    exact rng_mkU (by omega) ht
  · cases h
theorem ins_mem {x : S87} : ∀ {l m : List S87}, ins x l = some m → ∀ z ∈ m, z ∈ l ∨ z = x ∨ ∃ y ∈ l, un y x = some z
  | [], m, h, z, hz => by
    injection h with h
    subst h
    exact .inr (.inl (List.mem_singleton.1 hz))
  | y :: l, m, h, z, hz => by
    unfold ins at h
    split at h
    · obtain ⟨m', h1, rfl⟩ := Option.map_eq_some_iff.1 h
      rcases List.mem_cons.1 hz with rfl | hz
      · exact .inl (List.mem_cons_self ..)
      · rcases ins_mem h1 z hz with h2 | h2 | ⟨u, h2, h3⟩
        · exact .inl (List.mem_cons_of_mem _ h2)
        · exact .inr (.inl h2)
        · exact .inr (.inr ⟨u, List.mem_cons_of_mem _ h2, h3⟩)
    · split at h
      · obtain ⟨u, h1, rfl⟩ := Option.map_eq_some_iff.1 h
        rcases List.mem_cons.1 hz with rfl | hz
        · exact .inr (.inr ⟨y, List.mem_cons_self .., h1⟩)
        · exact .inl (List.mem_cons_of_mem _ hz)
      · injection h with h
        subst h
        rcases List.mem_cons.1 hz with rfl | hz
        · exact .inr (.inl rfl)
        · exact .inl hz
theorem ins_srt {x : S87} : ∀ {l m : List S87}, Srt l → ins x l = some m → Srt m
  | [], m, _, h => by
    injection h with h
    subst h
    exact List.pairwise_singleton _ _
  | y :: l, m, hs, h => by
    obtain ⟨h1, h2⟩ := List.pairwise_cons.1 hs
    unfold ins at h
    split at h
    · rename_i hy
      obtain ⟨m', h3, rfl⟩ := Option.map_eq_some_iff.1 h
      refine List.pairwise_cons.2 ⟨fun z hz => ?_, ins_srt h2 h3⟩
      rcases ins_mem h3 z hz with h4 | h4 | ⟨u, h4, h5⟩
      · exact h1 z h4
      · rw [h4]; exact hy
      · have := un_like h5
        rw [(cp_like this.2.1 this.1 y).1]
        exact h1 u h4
    · rename_i hy
      split at h
      · obtain ⟨u, h3, rfl⟩ := Option.map_eq_some_iff.1 h
        have := un_like h3
        exact List.pairwise_cons.2 ⟨fun z hz => by rw [(cp_like this.2.1 this.1 z).2]; exact h1 z hz, h2⟩
      · rename_i hy0
        injection h with h
        subst h
        have hxy : cp x y < 0 := by rw [cp_anti]; omega
        refine List.pairwise_cons.2 ⟨fun z hz => ?_, hs⟩
        rcases List.mem_cons.1 hz with rfl | hz
        · exact hxy
        · exact cp_trans hxy (h1 z hz)
theorem ins_length {x : S87} : ∀ {l m : List S87}, ins x l = some m → m.length ≤ l.length + 1
  | [], m, h => by
    injection h with h
    subst h
    exact Nat.le_refl _
  | y :: l, m, h => by
    unfold ins at h
    split at h
    · obtain ⟨m', h3, rfl⟩ := Option.map_eq_some_iff.1 h
      have := ins_length h3
      simp only [List.length_cons]; omega
    · split at h
      · obtain ⟨u, h3, rfl⟩ := Option.map_eq_some_iff.1 h
        simp only [List.length_cons]; omega
      · injection h with h
        subst h
        simp only [List.length_cons]; omega
theorem ins_ge {a b : Int} {x : S87} {l m : List S87} (hg : ∀ y ∈ l, Ge a b y) (hr : Rl l) (hx : Ge a b x) (hxr : Rng x.f2) (h : ins x l = some m) : (∀ z ∈ m, Ge a b z) ∧ Rl m := by
  constructor
  · intro z hz
    rcases ins_mem h z hz with h1 | h1 | ⟨y, h1, h2⟩
    · exact hg z h1
    · rw [h1]; exact hx
    · obtain ⟨e0, e1, e2⟩ := un_like h2
      have gy := hg y h1
      refine ⟨by rw [e0]; exact gy.1, by rw [e1, e0]; exact gy.2.1, fun hh => ?_⟩
      have hz0 := (num_zero (un_rng (hr y h1) hxr h2)).2 hh
      have n1 := num_nonneg (hr y h1)
      have n2 := num_nonneg hxr
      have : num y.f2 = 0 := by omega
      exact gy.2.2 ((num_zero (hr y h1)).1 this)
  · intro z hz
    rcases ins_mem h z hz with h1 | h1 | ⟨y, h1, h2⟩
    · exact hr z h1
    · rw [h1]; exact hxr
    · exact un_rng (hr y h1) hxr h2
theorem rt_ins {a b : Int} {K : Nat} {x : S87} {l m : List S87} (h : Rt a b K l) (hr : Rl l) (hx : Ge a b x) (hxr : Rng x.f2) (hi : ins x l = some m) : Rt a b K (m.take (K + 1)) ∧ Rl (m.take (K + 1)) := by
  obtain ⟨h1, h2⟩ := ins_ge h.2.2.1 hr hx hxr hi
  refine ⟨⟨h.1, by rw [List.length_take]; omega, fun z hz => h1 z (List.mem_of_mem_take hz), ?_⟩, fun z hz => h2 z (List.mem_of_mem_take hz)⟩
  exact List.Pairwise.sublist (List.take_sublist _ _) (ins_srt h.2.2.2 hi)
theorem en_f2 (a b : Int) (key : ByteArray) (n : Int) : (en a b key n).f2 = ⟨0, n⟩ := rfl
theorem en_f0 (a b : Int) (key : ByteArray) (n : Int) : (en a b key n).f0 = key := rfl
theorem en_f1 (a b : Int) (key : ByteArray) (n : Int) : (en a b key n).f1 = H a b key := rfl
theorem en_ge {a b : Int} {key : ByteArray} {n : Int} (hs : key.size ≤ 64) (h0 : 0 < n) : Ge a b (en a b key n) := by
  unfold Ge
  rw [en_f2, en_f0, en_f1]
  exact ⟨hs, Eq.refl _, fun h => by have := h.2; simp only at this; omega⟩
theorem num_en {a b : Int} {key : ByteArray} {n : Int} : num (en a b key n).f2 = n := by unfold num en; simp
end Go.Proofs.Ytpbiobbddgipkaa.Bo
