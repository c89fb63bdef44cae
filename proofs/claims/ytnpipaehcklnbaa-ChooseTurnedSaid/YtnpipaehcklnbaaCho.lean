/- Chapter 19 in plain Lean, part 1: strings in their order, what rises, what may be, and the search. -/
import Derived.Test.YtnpipaehcklnbaaHx1
import Derived.Lib.Strings
set_option linter.unusedVariables false
set_option linter.unusedSimpArgs false
namespace Go.Proofs.Ytnpipaehcklnbaa.Cho
open Go.RowKit Go.Proofs.Ytnpipaehcklnbaa.H Go.Proofs.YtnpipaehcklnbaaW.PrintWords Go.Proofs.YtnpipaehcklnbaaW.PrintMore

/-! ### A proposition's answer -/
noncomputable def yes (P : Prop) : Bool := @decide P (Classical.propDecidable P)
theorem yes_iff {P : Prop} : yes P = true ↔ P := @decide_eq_true_iff P (Classical.propDecidable P)
theorem yes_true {P : Prop} (h : P) : yes P = true := yes_iff.2 h
theorem yes_false {P : Prop} (h : ¬ P) : yes P = false := by
  cases hb : yes P with
  | false => rfl
  | true => exact absurd (yes_iff.1 hb) h
theorem yes_congr {P Q : Prop} (h : P ↔ Q) : yes P = yes Q := by rw [propext h]
theorem yes_not {P : Prop} : (!yes P) = yes (¬ P) := by
  by_cases h : P
  · rw [yes_true h, yes_false (fun h' => h' h)]; rfl
  · rw [yes_false h, yes_true h]; rfl
theorem yes_dec {P : Prop} [Decidable P] : decide P = yes P := by
  by_cases h : P
  · rw [yes_true h, decide_eq_true h]
  · rw [yes_false h, decide_eq_false h]

/-! ### The order -/
theorem less_list : ∀ x y : List UInt8, Op.bytesLess x y = true ↔ x < y
  | [], [] => by simp [Op.bytesLess]
  | _ :: _, [] => by simp [Op.bytesLess]
  | [], _ :: _ => by simp [Op.bytesLess]
  | a :: x, b :: y => by
    have ih := less_list x y
    rw [Op.bytesLess, List.cons_lt_cons_iff]
    by_cases h1 : a < b
    · simp [h1]
    · by_cases h2 : a = b
      · simp [h1, h2, ih]
      · simp [h1, h2]
def Lt (a b : ByteArray) : Prop := a.toList < b.toList
theorem less_iff (a b : ByteArray) : Op.bytesLess a.toList b.toList = true ↔ Lt a b := less_list _ _
theorem list_inj {a b : ByteArray} (h : a.toList = b.toList) : a = b := by
  rw [Lib.toList_data, Lib.toList_data] at h
  exact ByteArray.ext (Array.toList_inj.1 h)
theorem list_iff (a b : ByteArray) : a.toList = b.toList ↔ a = b := ⟨list_inj, fun h => by rw [h]⟩
theorem lt_irrefl (a : ByteArray) : ¬ Lt a a := List.lt_irrefl _
theorem lt_trans {a b c : ByteArray} (h : Lt a b) (h' : Lt b c) : Lt a c := List.lt_trans h h'
theorem lt_total (a b : ByteArray) : Lt a b ∨ a = b ∨ Lt b a := by
  by_cases h : Lt a b
  · exact .inl h
  · by_cases h' : Lt b a
    · exact .inr (.inr h')
    · exact .inr (.inl (list_inj (List.le_antisymm (List.not_lt.1 h') (List.not_lt.1 h))))
theorem le_lt {a b c : ByteArray} (h : ¬ Lt b a) (h' : Lt b c) : Lt a c := by
  rcases lt_total a b with h1 | h1 | h1
  · exact lt_trans h1 h'
  · rw [h1]; exact h'
  · exact absurd h1 h
theorem lt_le {a b c : ByteArray} (h : Lt a b) (h' : ¬ Lt c b) : Lt a c := by
  rcases lt_total b c with h1 | h1 | h1
  · exact lt_trans h h1
  · rw [← h1]; exact h
  · exact absurd h1 h'
abbrev E : ByteArray := ByteArray.empty
theorem rd_nat (l : List ByteArray) (i : Nat) : rdOf E l (i : Int) = l.getD i E := rfl
theorem w64 {x : Int} (h0 : -1000000 ≤ x) (h1 : x ≤ 1000000) : wrap64 x = x := by unfold wrap64; omega
theorem inc {i n : Nat} (h : i < n) (hn : n ≤ 1000) : wrap64 ((i : Int) + 1) = ((i + 1 : Nat) : Int) := by rw [w64 (by omega) (by omega)]; omega

/-! ### What rises -/
/-- The place j of a list is as it should be. -/
def At (l : List ByteArray) (j : Nat) : Prop := (l.getD j E).size ≤ 64 ∧ (0 < j → Lt (l.getD (j - 1) E) (l.getD j E))
def Rises (l : List ByteArray) : Prop := l.length ≤ 16 ∧ ∀ j, j < l.length → At l j
theorem upto {P : Nat → Prop} {i n : Nat} (h : i < n) : (∀ j, i ≤ j → j < n → P j) ↔ P i ∧ ∀ j, i + 1 ≤ j → j < n → P j := by
  constructor
  · exact fun h' => ⟨h' i (Nat.le_refl _) h, fun j hj => h' j (by omega)⟩
  · rintro ⟨h0, h1⟩ j hj hn
    rcases Nat.eq_or_lt_of_le hj with h2 | h2
    · rw [← h2]; exact h0
    · exact h1 j h2 hn
theorem rises_l0 (l : List ByteArray) (hn : l.length ≤ 1000) : ∀ m k i, l.length = i + m → m < k → choose_rises.l0 k l l (l.length : Int) (i : Int) = some (yes (l.length ≤ 16 ∧ ∀ j, i ≤ j → j < l.length → At l j))
  | 0, k, i, hi, hk => by
    obtain ⟨k, rfl⟩ : ∃ k', k = k' + 1 := ⟨k - 1, by omega⟩
    unfold choose_rises.l0
    rw [if_neg (by omega)]
    congr 1
    by_cases h : l.length ≤ 16
    · rw [yes_true ⟨h, fun j h1 h2 => by omega⟩, decide_eq_true (by omega)]
    · rw [yes_false (fun h' => h h'.1), decide_eq_false (by omega)]
  | m + 1, k, i, hi, hk => by
    obtain ⟨k, rfl⟩ : ∃ k', k = k' + 1 := ⟨k - 1, by omega⟩
    have ih := rises_l0 l hn m k (i + 1) (by omega) (by omega)
    have hlt : i < l.length := by omega
    rw [upto (P := At l) hlt]
    unfold choose_rises.l0
    rw [if_pos (by omega), if_pos (by omega), if_pos (by omega), choose_short.f, Option.bind_some, rd_nat, inc hlt hn]
    by_cases h0 : (l.getD i E).size ≤ 64
    · rw [if_pos (by simp only [decide_eq_true_eq]; omega)]
      by_cases hp : 0 < i
      · have hw : wrap64 ((i : Int) - 1) = ((i - 1 : Nat) : Int) := by rw [w64 (by omega) (by omega)]; omega
        rw [if_pos (by omega), hw, if_pos (by omega), if_pos (by omega), rd_nat]
        by_cases hl : Lt (l.getD (i - 1) E) (l.getD i E)
        · rw [if_pos ((less_iff _ _).2 hl), ih]
          congr 1
          refine yes_congr ?_
          exact ⟨fun h => ⟨h.1, ⟨h0, fun _ => hl⟩, h.2⟩, fun h => ⟨h.1, h.2.2⟩⟩
        · rw [if_neg (fun h => hl ((less_iff _ _).1 h))]
          congr 1
          exact (yes_false (fun h => hl (h.2.1.2 hp))).symm
      · rw [if_neg (by omega), ih]
        congr 1
        refine yes_congr ?_
        exact ⟨fun h => ⟨h.1, ⟨h0, fun h => absurd h hp⟩, h.2⟩, fun h => ⟨h.1, h.2.2⟩⟩
    · rw [if_neg (by simp only [decide_eq_true_eq]; omega)]
      congr 1
      exact (yes_false (fun h => h0 h.2.1.1)).symm
theorem rises_eq (l : List ByteArray) (hn : l.length ≤ 1000) (k : Nat) (hk : l.length < k) : choose_rises.f k l = some (yes (Rises l)) := by
  unfold choose_rises.f
  rw [show (0 : Int) = ((0 : Nat) : Int) from rfl, rises_l0 l hn l.length k 0 (by omega) hk]
  congr 1
  refine yes_congr ?_
  exact ⟨fun h => ⟨h.1, fun j hj => h.2 j (Nat.zero_le _) hj⟩, fun h => ⟨h.1, fun j _ hj => h.2 j hj⟩⟩
theorem rises_lt {l : List ByteArray} (h : Rises l) : ∀ d i, i + d + 1 < l.length → Lt (l.getD i E) (l.getD (i + d + 1) E)
  | 0, i, hi => by
    have := (h.2 (i + 1) hi).2 (by omega)
    simpa using this
  | d + 1, i, hi => by
    have h1 := rises_lt h d i (by omega)
    have h2 := (h.2 (i + d + 1 + 1) (by omega)).2 (by omega)
    rw [Nat.add_sub_cancel] at h2
    exact lt_trans h1 h2
theorem rises_mono {l : List ByteArray} (h : Rises l) {i j : Nat} (hij : i < j) (hj : j < l.length) : Lt (l.getD i E) (l.getD j E) := by
  obtain ⟨d, rfl⟩ : ∃ d, j = i + d + 1 := ⟨j - i - 1, by omega⟩
  exact rises_lt h d i hj

/-! ### The search -/
theorem mem_at {l : List ByteArray} {t : ByteArray} : t ∈ l ↔ ∃ q, q < l.length ∧ l.getD q E = t := by
  constructor
  · intro h
    obtain ⟨q, hq, h⟩ := List.mem_iff_getElem.1 h
    exact ⟨q, hq, by rw [List.getD_eq_getElem?_getD, List.getElem?_eq_getElem hq]; exact h⟩
  · rintro ⟨q, hq, h⟩
    rw [List.getD_eq_getElem?_getD, List.getElem?_eq_getElem hq] at h
    exact h ▸ List.getElem_mem hq
theorem less_eq (a b : ByteArray) : cmp_Less_string.f a b = some (Op.bytesLess a.toList b.toList) := by
  unfold cmp_Less_string.f cmp_isNaN_string.f
  rw [Option.bind_some, if_neg (by simp)]
theorem nan_eq (a : ByteArray) : slices_isNaN_string.f a = some false := by
  unfold slices_isNaN_string.f
  simp
theorem mid {i j : Nat} (h : i ≤ 1000) (h' : j ≤ 1000) : wrap64 ((IntKind.u64.wrap (wrap64 ((i : Int) + (j : Int)))) / 2) = (((i + j) / 2 : Nat) : Int) := by
  rw [show wrap64 ((i : Int) + (j : Int)) = (i : Int) + j from w64 (by omega) (by omega)]
  have : IntKind.u64.wrap ((i : Int) + (j : Int)) = (i : Int) + j := by
    have h1 : (IntKind.u64.wrap ((i : Int) + (j : Int))) = ((i : Int) + j) % 18446744073709551616 := rfl
    rw [h1]; omega
  rw [this, w64 (by omega) (by omega)]
  omega
theorem search_l0 (l : List ByteArray) (hl : Rises l) (t : ByteArray) : ∀ m k i j : Nat, i ≤ j → j ≤ l.length → j - i ≤ m → m < k → (∀ q, q < i → Lt (l.getD q E) t) → (∀ q, j ≤ q → q < l.length → ¬ Lt (l.getD q E) t) →
    ∃ r, slices_BinarySearch_string_string.l0 k l t (l.length : Int) (i : Int) (j : Int) = some (r, yes (t ∈ l)) := by
  have hn : l.length ≤ 1000 := Nat.le_trans hl.1 (by omega)
  intro m
  induction m with
  | zero =>
    intro k i j hij hj hm hk h1 h2
    obtain ⟨k, rfl⟩ : ∃ k', k = k' + 1 := ⟨k - 1, by omega⟩
    obtain rfl : i = j := by omega
    unfold slices_BinarySearch_string_string.l0
    rw [if_neg (by omega)]
    by_cases hi : i < l.length
    · rw [if_pos (by omega), if_pos (by omega), if_pos (by omega), rd_nat]
      by_cases he : l.getD i E = t
      · rw [if_pos (by rw [he])]
        exact ⟨_, by rw [yes_true (mem_at.2 ⟨i, hi, he⟩)]⟩
      · rw [if_neg (fun h => he (list_inj h)), nan_eq, Option.bind_some, if_neg (by simp)]
        have hlt : Lt t (l.getD i E) := by
          rcases lt_total (l.getD i E) t with h | h | h
          · exact absurd h (h2 i (Nat.le_refl _) hi)
          · exact absurd h he
          · exact h
        refine ⟨i, congrArg (fun b => some ((i : Int), b)) (yes_false ?_).symm⟩
        intro hmem
        obtain ⟨q, hq, hqt⟩ := mem_at.1 hmem
        rcases Nat.lt_trichotomy q i with h | h | h
        · exact lt_irrefl t (by have := h1 q h; rwa [hqt] at this)
        · exact he (by rw [← h]; exact hqt)
        · exact lt_irrefl t (lt_trans hlt (by have := rises_mono hl h hq; rwa [hqt] at this))
    · rw [if_neg (by omega)]
      refine ⟨i, congrArg (fun b => some ((i : Int), b)) (yes_false ?_).symm⟩
      intro hmem
      obtain ⟨q, hq, hqt⟩ := mem_at.1 hmem
      exact lt_irrefl t (by have := h1 q (by omega); rwa [hqt] at this)
  | succ m ih =>
    intro k i j hij hj hm hk h1 h2
    by_cases he : i = j
    · exact ih k i j hij hj (by omega) (by omega) h1 h2
    obtain ⟨k, rfl⟩ : ∃ k', k = k' + 1 := ⟨k - 1, by omega⟩
    unfold slices_BinarySearch_string_string.l0
    rw [if_pos (by omega), mid (by omega) (by omega), if_pos (by omega), if_pos (by omega), rd_nat, less_eq, Option.bind_some]
    generalize hh : (i + j) / 2 = h
    by_cases hlt : Lt (l.getD h E) t
    · rw [if_pos ((less_iff _ _).2 hlt), show wrap64 ((h : Int) + 1) = ((h + 1 : Nat) : Int) from by rw [w64 (by omega) (by omega)]; omega]
      refine ih k (h + 1) j (by omega) hj (by omega) (by omega) (fun q hq => ?_) h2
      rcases Nat.lt_or_ge q h with hq' | hq'
      · exact lt_trans (rises_mono hl hq' (by omega)) hlt
      · obtain rfl : q = h := by omega
        exact hlt
    · rw [if_neg (fun h' => hlt ((less_iff _ _).1 h'))]
      refine ih k i h (by omega) (by omega) (by omega) (by omega) h1 (fun q hq hq2 hqt => ?_)
      rcases Nat.eq_or_lt_of_le hq with hq' | hq'
      · exact hlt (by rw [hq']; exact hqt)
      · exact hlt (lt_trans (rises_mono hl hq' hq2) hqt)
theorem search_eq (l : List ByteArray) (hl : Rises l) (t : ByteArray) (k : Nat) (hk : 20 ≤ k) : ∃ r, slices_BinarySearch_string_string.f k l t = some (r, yes (t ∈ l)) := by
  have h16 := hl.1
  exact search_l0 l hl t l.length k 0 l.length (Nat.zero_le _) (Nat.le_refl _) (by omega) (by omega) (fun q hq => by omega) (fun q h1 h2 => by omega)

/-! ### What may be, and what is taken -/
def Sound (t : S42) : Prop := (t.f0 = 1 ∧ t.f1.size ≤ 64 ∧ t.f2 = E ∧ t.f3 = []) ∨ (t.f0 = 2 ∧ t.f1.size ≤ 64 ∧ t.f2.size ≤ 64 ∧ t.f3 = []) ∨ ((t.f0 = 3 ∨ t.f0 = 4) ∧ t.f1 = E ∧ t.f2 = E ∧ Rises t.f3)
theorem nil_iff (a : ByteArray) : a.toList = ([] : List UInt8) ↔ a = E := by
  have h := list_iff a E
  rwa [show E.toList = [] from by rw [Lib.toList_data]; rfl] at h
theorem len_iff {α : Type} (l : List α) : ((l.length : Int) == 0) = true ↔ l = [] := by
  cases l
  · simp
  · simp only [List.length_cons, beq_iff_eq, reduceCtorEq, iff_false]; omega
theorem sound_eq (t : S42) (hn : t.f3.length ≤ 1000) (k : Nat) (hk : t.f3.length < k) : choose_sound.f k t.f0 t.f1 t.f2 t.f3 = some (yes (Sound t)) := by
  unfold choose_sound.f choose_short.f
  simp only [Option.bind_some, rises_eq _ hn k hk, decide_eq_true_eq, nil_iff]
  unfold Sound
  by_cases h1 : t.f0 = 1
  · rw [if_pos h1]
    by_cases h2 : (t.f1.size : Int) ≤ 64
    · rw [if_pos h2]
      by_cases h3 : t.f2 = E
      · rw [if_pos h3]
        congr 1
        by_cases h4 : t.f3 = []
        · rw [(len_iff _).2 h4, yes_true (.inl ⟨h1, by omega, h3, h4⟩)]
        · rw [Bool.eq_false_iff.2 (fun h => h4 ((len_iff _).1 h)), yes_false (by rintro (h | h | h) <;> first | exact h4 h.2.2.2 | omega)]
      · rw [if_neg h3, yes_false (by rintro (h | h | h) <;> first | exact h3 h.2.2.1 | omega)]
    · rw [if_neg h2, yes_false (by rintro (h | h | h) <;> omega)]
  · rw [if_neg h1]
    by_cases h2 : t.f0 = 2
    · rw [if_pos h2]
      by_cases h3 : (t.f1.size : Int) ≤ 64
      · rw [if_pos h3]
        by_cases h4 : (t.f2.size : Int) ≤ 64
        · rw [if_pos h4]
          congr 1
          by_cases h5 : t.f3 = []
          · rw [(len_iff _).2 h5, yes_true (.inr (.inl ⟨h2, by omega, by omega, h5⟩))]
          · rw [Bool.eq_false_iff.2 (fun h => h5 ((len_iff _).1 h)), yes_false (by rintro (h | h | h) <;> first | exact h5 h.2.2.2 | omega)]
        · rw [if_neg h4, yes_false (by rintro (h | h | h) <;> omega)]
      · rw [if_neg h3, yes_false (by rintro (h | h | h) <;> omega)]
    · rw [if_neg h2]
      have key : t.f0 = 3 ∨ t.f0 = 4 → (if t.f1 = E then if t.f2 = E then some (yes (Rises t.f3)) else some false else some false) = some (yes (Sound t)) := by
        intro h34
        unfold Sound
        by_cases h3 : t.f1 = E
        · rw [if_pos h3]
          by_cases h4 : t.f2 = E
          · rw [if_pos h4]
            congr 1
            refine yes_congr ⟨fun h => .inr (.inr ⟨h34, h3, h4, h⟩), ?_⟩
            rintro (h | h | h)
            · exact absurd h.1 h1
            · exact absurd h.1 h2
            · exact h.2.2.2
          · rw [if_neg h4, yes_false (by rintro (h | h | h) <;> first | exact h1 h.1 | exact h2 h.1 | exact h4 h.2.2.1)]
        · rw [if_neg h3, yes_false (by rintro (h | h | h) <;> first | exact h1 h.1 | exact h2 h.1 | exact h3 h.2.1)]
      unfold Sound at key
      by_cases h3 : t.f0 = 3
      · rw [if_pos h3, key (.inl h3)]
      · rw [if_neg h3]
        by_cases h4 : t.f0 = 4
        · rw [if_pos h4, key (.inr h4)]
        · rw [if_neg h4, yes_false (by rintro (h | h | h) <;> omega)]
end Go.Proofs.Ytnpipaehcklnbaa.Cho
