/- Chapter 14 in plain Lean, part 1: the order of entries, where one stands, and what is laid in. -/
import Derived.Test.YtmfffbafldbihaaHx4
import Derived.Test.YtmfffbafldbihaaHx6
import Derived.Test.YtmfffbafldbihaaSip
set_option linter.unusedVariables false
set_option linter.unusedSimpArgs false
namespace Go.Proofs.Ytmfffbafldbihaa.Bo
open Go.RowKit Go.Proofs.Ytmfffbafldbihaa.H Go.Proofs.YtmfffbafldbihaaW.PrintWords Go.Proofs.YtmfffbafldbihaaW.PrintMore

noncomputable def yes (P : Prop) : Bool := @decide P (Classical.propDecidable P)
theorem yes_iff {P : Prop} : yes P = true ↔ P := @decide_eq_true_iff P (Classical.propDecidable P)
theorem yes_true {P : Prop} (h : P) : yes P = true := yes_iff.2 h
theorem yes_false {P : Prop} (h : ¬ P) : yes P = false := by
  cases hb : yes P with
  | false => rfl
  | true => exact absurd (yes_iff.1 hb) h
theorem yes_congr {P Q : Prop} (h : P ↔ Q) : yes P = yes Q := by rw [propext h]
theorem w64 {x : Int} (h0 : -1000000 ≤ x) (h1 : x ≤ 1000000) : wrap64 x = x := by unfold wrap64; omega
theorem inc {i n : Nat} (h : i < n) (hn : n ≤ 10000) : wrap64 ((i : Int) + 1) = ((i + 1 : Nat) : Int) := by rw [w64 (by omega) (by omega)]; omega
theorem list_inj {a b : ByteArray} (h : a.toList = b.toList) : a = b := by
  rw [Lib.toList_data, Lib.toList_data] at h
  exact ByteArray.ext (Array.toList_inj.1 h)
theorem list_iff (a b : ByteArray) : a.toList = b.toList ↔ a = b := ⟨list_inj, fun h => by rw [h]⟩

/-! ### Texts in order -/
theorem cb_eq : ∀ a b : List UInt8, Lib.compareBytes a b = 0 ↔ a = b
  | [], [] => by simp [Lib.compareBytes]
  | [], _ :: _ => by simp [Lib.compareBytes]
  | _ :: _, [] => by simp [Lib.compareBytes]
  | a :: x, b :: y => by
    unfold Lib.compareBytes
    have ih := cb_eq x y
    split
    · rename_i h
      constructor
      · intro h2; omega
      · intro h2; injection h2 with e _; subst e; exact absurd h (UInt8.lt_irrefl a)
    · split
      · rename_i h
        constructor
        · intro h2; omega
        · intro h2; injection h2 with e _; subst e; exact absurd h (UInt8.lt_irrefl a)
      · rename_i h1 h2
        have e : a = b := by
          apply UInt8.toNat_inj.1
          rw [UInt8.lt_iff_toNat_lt] at h1 h2
          omega
        subst e
        rw [ih]
        simp
theorem cb_anti : ∀ a b : List UInt8, Lib.compareBytes b a = - Lib.compareBytes a b
  | [], [] => by simp [Lib.compareBytes]
  | [], _ :: _ => by simp [Lib.compareBytes]
  | _ :: _, [] => by simp [Lib.compareBytes]
  | a :: x, b :: y => by
    unfold Lib.compareBytes
    have ih := cb_anti x y
    by_cases h1 : a < b
    · have h2 : ¬ b < a := fun h => by rw [UInt8.lt_iff_toNat_lt] at h h1; omega
      rw [if_neg h2, if_pos h1, if_pos h1]; rfl
    · by_cases h2 : b < a
      · rw [if_pos h2, if_neg h1, if_pos h2]
      · rw [if_neg h2, if_neg h1, if_neg h1, if_neg h2, ih]
theorem cb_less : ∀ a b : List UInt8, Op.bytesLess a b = decide (Lib.compareBytes a b < 0)
  | [], [] => by simp [Lib.compareBytes, Op.bytesLess]
  | [], _ :: _ => by simp [Lib.compareBytes, Op.bytesLess]
  | _ :: _, [] => by simp [Lib.compareBytes, Op.bytesLess]
  | a :: x, b :: y => by
    unfold Lib.compareBytes Op.bytesLess
    have ih := cb_less x y
    by_cases h1 : a < b
    · rw [if_pos h1]; simp [h1]
    · by_cases h2 : b < a
      · have h3 : (a == b) = false := by rw [beq_eq_false_iff_ne]; rintro rfl; exact absurd h2 h1
        rw [if_neg h1, if_pos h2]; simp [h1, h3]
      · have h3 : a = b := by
          apply UInt8.toNat_inj.1
          rw [UInt8.lt_iff_toNat_lt] at h1 h2
          omega
        subst h3
        rw [if_neg h1, if_neg h1, ih]; simp [h1]
theorem cb_trans : ∀ a b c : List UInt8, Lib.compareBytes a b < 0 → Lib.compareBytes b c < 0 → Lib.compareBytes a c < 0
  | [], [], _ => by simp [Lib.compareBytes]
  | [], _ :: _, [] => by simp [Lib.compareBytes]
  | [], _ :: _, _ :: _ => by simp [Lib.compareBytes]
  | _ :: _, [], _ => by simp [Lib.compareBytes]
  | _ :: _, _ :: _, [] => by simp [Lib.compareBytes]
  | a :: x, b :: y, c :: z => by
    have ih := cb_trans x y z
    unfold Lib.compareBytes
    simp only [UInt8.lt_iff_toNat_lt]
    intro h1 h2
    split at h1
    · split at h2
      · rw [if_pos (by omega)]; decide
      · split at h2
        · omega
        · rw [if_pos (by omega)]; decide
    · split at h1
      · omega
      · split at h2
        · rw [if_pos (by omega)]; decide
        · split at h2
          · omega
          · rw [if_neg (by omega), if_neg (by omega)]
            exact ih h1 h2

/-! ### Entries in order -/
/-- How y stands to x. -/
def cp (y x : S62) : Int := if y.f1 < x.f1 then -1 else if y.f1 > x.f1 then 1 else Lib.compareBytes y.f0.data.toList x.f0.data.toList
theorem cp_zero (y x : S62) : cp y x = 0 ↔ y.f1 = x.f1 ∧ y.f0 = x.f0 := by
  unfold cp
  split
  · exact ⟨fun h => by omega, fun h => by omega⟩
  · split
    · exact ⟨fun h => by omega, fun h => by omega⟩
    · rw [cb_eq]
      exact ⟨fun h => ⟨by omega, ByteArray.ext (Array.toList_inj.1 h)⟩, fun h => by rw [h.2]⟩
theorem cp_anti (y x : S62) : cp x y = - cp y x := by
  unfold cp
  by_cases h1 : y.f1 < x.f1
  · rw [if_neg (by omega), if_pos h1, if_pos h1]; rfl
  · by_cases h2 : y.f1 > x.f1
    · rw [if_pos h2, if_neg h1, if_pos h2]
    · rw [if_neg h2, if_neg (by omega), if_neg h1, if_neg h2, cb_anti]
theorem cp_trans {x y z : S62} (h1 : cp x y < 0) (h2 : cp y z < 0) : cp x z < 0 := by
  unfold cp at *
  split at h1
  · split at h2
    · rw [if_pos (by omega)]; decide
    · split at h2
      · omega
      · rw [if_pos (by omega)]; decide
  · split at h1
    · omega
    · split at h2
      · rw [if_pos (by omega)]; decide
      · split at h2
        · omega
        · rw [if_neg (by omega), if_neg (by omega)]
          exact cb_trans _ _ _ h1 h2
theorem cp_irrefl (x : S62) : ¬ cp x x < 0 := by rw [(cp_zero x x).2 ⟨rfl, rfl⟩]; decide
theorem cp_like {x x' : S62} (h1 : x.f1 = x'.f1) (h0 : x.f0 = x'.f0) (y : S62) : cp y x = cp y x' ∧ cp x y = cp x' y := by
  unfold cp
  rw [h1, h0]
  exact ⟨rfl, rfl⟩
theorem or_eq (k : Nat) (a b : Int) : cmp_Or_int.f (k + 3) [a, b] = some (if a = 0 then b else a) := by
  have e1 : wrap64 (0 + 1) = 1 := by unfold wrap64; omega
  have e2 : wrap64 (1 + 1) = 2 := by unfold wrap64; omega
  show cmp_Or_int.l0 (k + 3) 0 [a, b] 2 0 = _
  unfold cmp_Or_int.l0
  rw [if_pos (by decide), if_pos (by decide), if_pos (show (0 : Int) < (([a, b] : List Int).length : Int) by simp), show rd [a, b] 0 = a from rfl, e1]
  by_cases h : a = 0
  · rw [if_pos h, if_pos h]
    unfold cmp_Or_int.l0
    rw [if_pos (by decide), if_pos (by decide), if_pos (show (1 : Int) < (([a, b] : List Int).length : Int) by simp), show rd [a, b] 1 = b from rfl, e2]
    by_cases h2 : b = 0
    · rw [if_pos h2]
      unfold cmp_Or_int.l0
      rw [if_neg (by decide), h2]
    · rw [if_neg h2]
  · rw [if_neg h, if_neg h]
theorem compare_eq (y x : S62) (k : Nat) (hk : 3 ≤ k) : bottom_compare.f k y.f0 y.f1 y.f2.f0 y.f2.f1 x.f0 x.f1 x.f2.f0 x.f2.f1 = some (cp y x) := by
  obtain ⟨k, rfl⟩ : ∃ k', k = k' + 3 := ⟨k - 3, by omega⟩
  have hc : cmp_Compare_uint64.f y.f1 x.f1 = some (if y.f1 < x.f1 then -1 else if y.f1 > x.f1 then 1 else 0) := by
    unfold cmp_Compare_uint64.f cmp_isNaN_uint64.f
    simp only [bne_self_eq_false, Option.bind_some]
    rw [if_neg (by decide), if_neg (by decide)]
    split
    · rfl
    · split <;> rfl
  unfold bottom_compare.f
  rw [hc, Option.bind_some]
  unfold strings_Compare.f bytealg_CompareString.f
  rw [Option.bind_some, Option.bind_some, or_eq, Option.bind_some]
  unfold cp
  split
  · rw [if_neg (by decide)]
  · split
    · rw [if_neg (by decide)]
    · rw [if_pos rfl]

/-! ### Where an entry stands -/
def Srt (l : List S62) : Prop := l.Pairwise fun y x => cp y x < 0
def pos (x : S62) : List S62 → Nat
  | [] => 0
  | y :: l => if cp y x < 0 then pos x l + 1 else 0
theorem pos_le (x : S62) : ∀ l, pos x l ≤ l.length
  | [] => Nat.le_refl _
  | y :: l => by
    have := pos_le x l
    unfold pos
    split
    · simp only [List.length_cons]; omega
    · omega
theorem pos_lo (x : S62) : ∀ (l : List S62) (m : Nat), m < pos x l → cp (l.getD m z62) x < 0
  | [], m, h => absurd h (Nat.not_lt_zero _)
  | y :: l, m, h => by
    unfold pos at h
    split at h
    · rename_i hy
      cases m with
      | zero => exact hy
      | succ m => exact pos_lo x l m (by omega)
    · exact absurd h (Nat.not_lt_zero _)
theorem srt_ge {x y : S62} {l : List S62} (hs : Srt (y :: l)) (h : ¬ cp y x < 0) : ∀ z ∈ l, ¬ cp z x < 0 := fun z hz hzx => by
  have := (List.pairwise_cons.1 hs).1 z hz
  exact h (cp_trans this hzx)
theorem pos_hi (x : S62) : ∀ (l : List S62), Srt l → ∀ m, pos x l ≤ m → m < l.length → ¬ cp (l.getD m z62) x < 0
  | [], _, m, _, h => absurd h (Nat.not_lt_zero _)
  | y :: l, hs, m, h, hm => by
    unfold pos at h
    split at h
    · obtain ⟨m, rfl⟩ : ∃ m', m = m' + 1 := ⟨m - 1, by omega⟩
      exact pos_hi x l (List.pairwise_cons.1 hs).2 m (by omega) (by simpa using hm)
    · rename_i hy
      cases m with
      | zero => exact hy
      | succ m =>
        have hm' : m < l.length := by simpa using hm
        refine srt_ge hs hy _ ?_
        show l.getD m z62 ∈ l
        rw [List.getD_eq_getElem?_getD, List.getElem?_eq_getElem hm']
        exact List.getElem_mem hm'
theorem bsF_eq {α : Type} (p : α → Option Int) (l : List α) (d : α) (c : Nat → Int) (hp : ∀ m, m < l.length → p (l.getD m d) = some (c m)) (b : Nat) (hlo : ∀ m, m < b → c m < 0) (hhi : ∀ m, b ≤ m → m < l.length → ¬ c m < 0) :
    ∀ (n i j : Nat), i ≤ b → b ≤ j → j ≤ l.length → j - i ≤ n → bsF p l d n (i : Int) (j : Int) = some (b : Int)
  | 0, i, j, h1, h2, h3, h4 => by
    rw [bsF, if_neg (by omega)]
    congr 1; omega
  | n + 1, i, j, h1, h2, h3, h4 => by
    rw [bsF]
    by_cases h : i < j
    · rw [if_pos (by omega)]
      have e : ((i : Int) + j) / 2 = ((i + j) / 2 : Nat) := by omega
      rw [e, Int.toNat_natCast, hp _ (by omega), Option.bind_some]
      by_cases hc : c ((i + j) / 2) < 0
      · rw [if_pos hc]
        have hb : (i + j) / 2 < b := by
          rcases Nat.lt_or_ge ((i + j) / 2) b with h5 | h5
          · exact h5
          · exact absurd hc (hhi _ h5 (by omega))
        have := bsF_eq p l d c hp b hlo hhi n ((i + j) / 2 + 1) j (by omega) h2 h3 (by omega)
        simpa using this
      · rw [if_neg hc]
        have hb : b ≤ (i + j) / 2 := by
          rcases Nat.lt_or_ge ((i + j) / 2) b with h5 | h5
          · exact absurd (hlo _ h5) hc
          · exact h5
        exact bsF_eq p l d c hp b hlo hhi n i ((i + j) / 2) h1 hb (by omega) (by omega)
    · rw [if_neg (by omega)]
      congr 1; omega
/-- Does an entry of x's key stand there? -/
def hit (x : S62) (l : List S62) : Bool := decide (pos x l < l.length) && decide (cp (l.getD (pos x l) z62) x = 0)
theorem bsT_eq (x : S62) (l : List S62) (hs : Srt l) (k : Nat) (hk : 3 ≤ k) :
    bsT (fun y => bottom_compare.f k y.f0 y.f1 y.f2.f0 y.f2.f1 x.f0 x.f1 x.f2.f0 x.f2.f1) l z62 = some ((pos x l : Int), hit x l) := by
  unfold bsT
  have h := bsF_eq (fun y => bottom_compare.f k y.f0 y.f1 y.f2.f0 y.f2.f1 x.f0 x.f1 x.f2.f0 x.f2.f1) l z62 (fun m => cp (l.getD m z62) x) (fun m _ => compare_eq _ x k hk) (pos x l) (pos_lo x l) (pos_hi x l hs) l.length 0 l.length (Nat.zero_le _) (pos_le x l) (Nat.le_refl _) (by omega)
  rw [show ((0 : Nat) : Int) = 0 from rfl] at h
  rw [h, Option.bind_some]
  unfold hit
  by_cases hp : pos x l < l.length
  · rw [if_pos (by omega), Int.toNat_natCast]
    simp only
    rw [compare_eq _ x k hk, Option.bind_some]
    simp [hp]
  · rw [if_neg (by omega)]
    simp [hp]

/-! ### Numbers of 128 bits -/
def num (c : S50) : Int := c.f0 * 18446744073709551616 + c.f1
def Rng (c : S50) : Prop := (0 ≤ c.f0 ∧ c.f0 < 18446744073709551616) ∧ (0 ≤ c.f1 ∧ c.f1 < 18446744073709551616)
def mkU (n : Int) : S50 := ⟨n / 18446744073709551616, n % 18446744073709551616⟩
def top : Int := 340282366920938463463374607431768211456
theorem num_mkU (n : Int) : num (mkU n) = n := by unfold num mkU; simp only; omega
theorem mkU_num {c : S50} (h : Rng c) : mkU (num c) = c := by
  obtain ⟨a, b⟩ := c
  unfold num mkU
  obtain ⟨⟨h1, h2⟩, h3, h4⟩ := h
  simp only at *
  congr 1 <;> omega
theorem rng_mkU {n : Int} (h0 : 0 ≤ n) (h1 : n < top) : Rng (mkU n) := by unfold Rng mkU; unfold top at h1; simp only; omega
theorem num_nonneg {c : S50} (h : Rng c) : 0 ≤ num c := by obtain ⟨⟨h1, h2⟩, h3, h4⟩ := h; unfold num; omega
theorem num_top {c : S50} (h : Rng c) : num c < top := by obtain ⟨⟨h1, h2⟩, h3, h4⟩ := h; unfold num top; omega
theorem num_inj {c d : S50} (hc : Rng c) (hd : Rng d) (h : num c = num d) : c = d := by rw [← mkU_num hc, ← mkU_num hd, h]
theorem num_zero {c : S50} (h : Rng c) : num c = 0 ↔ c.f0 = 0 ∧ c.f1 = 0 := by
  obtain ⟨⟨h1, h2⟩, h3, h4⟩ := h
  unfold num
  constructor
  · intro h; omega
  · rintro ⟨h5, h6⟩; rw [h5, h6]; rfl
theorem add_rng {a b c d : Int} (h1 : Rng ⟨a, b⟩) (h2 : Rng ⟨c, d⟩) : wide_Add.f a b c d = some (if num ⟨a, b⟩ + num ⟨c, d⟩ < top then ((mkU (num ⟨a, b⟩ + num ⟨c, d⟩)).f0, (mkU (num ⟨a, b⟩ + num ⟨c, d⟩)).f1, true) else (0, 0, false)) := by
  obtain ⟨⟨p1, p2⟩, p3, p4⟩ := h1
  obtain ⟨⟨q1, q2⟩, q3, q4⟩ := h2
  simp only at p1 p2 p3 p4 q1 q2 q3 q4
  unfold wide_Add.f
  rw [if_pos ⟨p1, p2, p3, p4, q1, q2, q3, q4⟩]
  unfold num mkU top
  simp only
  by_cases h : a + c + (b + d) / 18446744073709551616 < 18446744073709551616
  · rw [if_pos h, if_pos (by omega)]
    congr 2
    · omega
    · congr 1
      omega
  · rw [if_neg h, if_neg (by omega)]

/-! ### What is laid in -/
/-- Two entries of one key. -/
def un (y x : S62) : Option S62 := if num y.f2 + num x.f2 < top then some ⟨y.f0, y.f1, mkU (num y.f2 + num x.f2)⟩ else none
def ins (x : S62) : List S62 → Option (List S62)
  | [] => some [x]
  | y :: l => if cp y x < 0 then (ins x l).map (y :: ·) else if cp y x = 0 then (un y x).map (· :: l) else some (x :: y :: l)
theorem ins_new (x : S62) : ∀ l : List S62, hit x l = false → ins x l = some (l.take (pos x l) ++ [x] ++ l.drop (pos x l))
  | [], _ => rfl
  | y :: l, h => by
    unfold ins
    unfold hit pos at h
    unfold pos
    split
    · rename_i hy
      rw [if_pos hy] at h
      have ih := ins_new x l (by unfold hit; simpa using h)
      rw [ih]
      rfl
    · rename_i hy
      rw [if_neg hy] at h
      have h0 : ¬ cp y x = 0 := by intro h0; simp [h0] at h
      rw [if_neg h0]
      rfl
theorem ins_old (x : S62) : ∀ l : List S62, hit x l = true → ins x l = (un (l.getD (pos x l) z62) x).map fun z => l.set (pos x l) z
  | [], h => by unfold hit at h; simp at h
  | y :: l, h => by
    unfold ins
    unfold hit pos at h
    unfold pos
    split
    · rename_i hy
      rw [if_pos hy] at h
      have ih := ins_old x l (by unfold hit; simpa using h)
      rw [ih, Option.map_map]
      rfl
    · rename_i hy
      rw [if_neg hy] at h
      have h0 : cp y x = 0 := by simpa using h
      rw [if_pos h0]
      rfl
def Rl (l : List S62) : Prop := ∀ y ∈ l, Rng y.f2
theorem rl_get {l : List S62} (h : Rl l) {m : Nat} (hm : m < l.length) : Rng (l.getD m z62).f2 := by
  rw [List.getD_eq_getElem?_getD, List.getElem?_eq_getElem hm]
  exact h _ (List.getElem_mem hm)
theorem cut_eq (a b : Int) (K : Nat) (hK : K ≤ 1024) (m : List S62) : bottom_add.cut a b (K : Int) m = some (a, b, (K : Int), m.take (K + 1), 0) := by
  unfold bottom_add.cut
  rw [w64 (by omega) (by omega), if_pos (by omega)]
  congr 4
  congr 1
  rcases Nat.le_total m.length (K + 1) with h | h
  · rw [show (min (m.length : Int) ((K : Int) + 1)).toNat = m.length by omega, List.take_of_length_le (Nat.le_refl _), List.take_of_length_le h]
  · rw [show (min (m.length : Int) ((K : Int) + 1)).toNat = K + 1 by omega]
/-- What adding answers. -/
def res (a b : Int) (K : Nat) (l : List S62) : Option (List S62) → Int × Int × Int × List S62 × Int
  | some m => (a, b, (K : Int), m.take (K + 1), 0)
  | none => (a, b, (K : Int), l, 12)
theorem add_eq (a b : Int) (K : Nat) (hK : K ≤ 1024) (l : List S62) (hl : l.length < 1000000) (hs : Srt l) (hr : Rl l) (x : S62) (hx : Rng x.f2) (k : Nat) (hk : 3 ≤ k) :
    bottom_add.f k a b (K : Int) l x.f0 x.f1 x.f2.f0 x.f2.f1 = some (res a b K l (ins x l)) := by
  unfold bottom_add.f
  rw [if_pos hl, bsT_eq x l hs k hk, Option.bind_some]
  have hle := pos_le x l
  cases hh : hit x l with
  | false =>
    simp only
    rw [if_neg (by decide), if_pos (by omega), Int.toNat_natCast, cut_eq a b K hK, ins_new x l hh]
    rfl
  | true =>
    have hp : pos x l < l.length := by unfold hit at hh; simp at hh; exact hh.1
    simp only
    rw [if_pos trivial, if_pos (by omega)]
    have e : rd_T62 l (pos x l : Int) = l.getD (pos x l) z62 := by show l.getD (pos x l : Int).toNat z62 = _; rw [Int.toNat_natCast]
    rw [e, add_rng (rl_get hr hp) hx, Option.bind_some, ins_old x l hh]
    unfold un
    by_cases hc : num (l.getD (pos x l) z62).f2 + num x.f2 < top
    · rw [if_pos hc, if_pos hc]
      simp only
      rw [if_pos trivial, Int.toNat_natCast, cut_eq a b K hK]
      rfl
    · rw [if_neg hc, if_neg hc]
      simp only
      rw [if_neg (by decide)]
      rfl
end Go.Proofs.Ytmfffbafldbihaa.Bo
