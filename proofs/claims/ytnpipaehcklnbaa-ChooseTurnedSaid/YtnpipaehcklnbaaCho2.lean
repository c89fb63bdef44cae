/- Chapter 19 in plain Lean, part 2: what is taken, what is meant, the keys that are, and both of two. -/
import Derived.Test.YtnpipaehcklnbaaCho
import Derived.Test.YtnpipaehcklnbaaHx3
import Derived.Test.YtnpipaehcklnbaaHx2
set_option linter.unusedVariables false
set_option linter.unusedSimpArgs false
namespace Go.Proofs.Ytnpipaehcklnbaa.Cho
open Go.RowKit Go.Proofs.Ytnpipaehcklnbaa.H Go.Proofs.YtnpipaehcklnbaaW.PrintWords Go.Proofs.YtnpipaehcklnbaaW.PrintMore

def Pre (key p : ByteArray) : Prop := p.size ≤ key.size ∧ (key.extract 0 p.size).toList = p.toList
theorem pre_eq (key p : ByteArray) : strings_HasPrefix.f key p = some (yes (Pre key p)) := by
  unfold strings_HasPrefix.f stringslite_HasPrefix.f
  by_cases h : (key.size : Int) ≥ (p.size : Int)
  · rw [if_pos h, if_pos (by omega), if_pos (by omega), Option.bind_some]
    congr 1
    have he : ((p.size : Int)).toNat = p.size := by omega
    rw [he]
    by_cases h2 : (key.extract 0 p.size).toList = p.toList
    · rw [yes_true ⟨by omega, h2⟩]; simpa using h2
    · rw [yes_false (fun h => h2 h.2)]; simpa using h2
  · rw [if_neg h, Option.bind_some, yes_false (fun h' => h (by have := h'.1; omega))]
def Takes (t : S42) (key : ByteArray) : Prop := (t.f0 = 1 ∧ Pre key t.f1) ∨ (t.f0 = 2 ∧ ¬ Lt key t.f1 ∧ (t.f2 = E ∨ Lt key t.f2)) ∨ (t.f0 = 3 ∧ key ∈ t.f3) ∨ (t.f0 = 4 ∧ key ∉ t.f3)
theorem takes_eq (t : S42) (h : Sound t) (key : ByteArray) (k : Nat) (hk : 20 ≤ k) : choose_takes.f k t.f0 t.f1 t.f2 t.f3 key = some (yes (Takes t key)) := by
  unfold choose_takes.f Takes
  by_cases h1 : t.f0 = 1
  · rw [if_pos h1, pre_eq, Option.bind_some]
    congr 1
    exact yes_congr ⟨fun h => .inl ⟨h1, h⟩, by rintro (h | h | h | h) <;> first | exact h.2 | omega⟩
  · rw [if_neg h1]
    by_cases h2 : t.f0 = 2
    · rw [if_pos h2]
      by_cases h3 : Lt key t.f1
      · rw [if_pos ((less_iff _ _).2 h3), yes_false (by rintro (h | h | h | h) <;> first | exact h.2.1 h3 | omega)]
      · rw [if_neg (fun h => h3 ((less_iff _ _).1 h))]
        by_cases h4 : t.f2 = E
        · rw [if_pos ((nil_iff _).2 h4), yes_true (.inr (.inl ⟨h2, h3, .inl h4⟩))]
        · rw [if_neg (fun h => h4 ((nil_iff _).1 h))]
          congr 1
          by_cases h5 : Lt key t.f2
          · rw [(less_iff _ _).2 h5, yes_true (.inr (.inl ⟨h2, h3, .inr h5⟩))]
          · rw [Bool.eq_false_iff.2 (fun h => h5 ((less_iff _ _).1 h)), yes_false (by rintro (h | h | h | h) <;> first | exact h.2.2.elim h4 h5 | omega)]
    · rw [if_neg h2]
      have hr : (t.f0 = 3 ∨ t.f0 = 4) ∧ Rises t.f3 := by rcases h with h | h | h <;> first | exact ⟨h.1, h.2.2.2⟩ | omega
      obtain ⟨r, hs⟩ := search_eq t.f3 hr.2 key k hk
      rw [hs, Option.bind_some]
      congr 1
      by_cases hm : key ∈ t.f3
      · rw [yes_true hm]
        rcases hr.1 with h3 | h4
        · rw [yes_true (.inr (.inr (.inl ⟨h3, hm⟩))), h3]; rfl
        · rw [yes_false (by rintro (h | h | h | h) <;> first | exact h.2 hm | omega), h4]; rfl
      · rw [yes_false hm]
        rcases hr.1 with h3 | h4
        · rw [yes_false (by rintro (h | h | h | h) <;> first | exact hm h.2 | omega), h3]; rfl
        · rw [yes_true (.inr (.inr (.inr ⟨h4, hm⟩))), h4]; rfl

/-! ### Lists of terms -/
theorem idx_some {α : Type} (p : α → Option Bool) (q : α → Bool) : ∀ (l : List α) (i : Int), 0 ≤ i → (∀ x ∈ l, p x = some (q x)) → ∃ r, idxF p l i = some r ∧ decide (r ≥ 0) = l.any q
  | [], i, _, _ => ⟨-1, rfl, rfl⟩
  | x :: l, i, hi, h => by
    rw [idxF, h x List.mem_cons_self, Option.bind_some]
    cases hq : q x with
    | true => exact ⟨i, rfl, by rw [List.any_cons, hq, Bool.true_or]; exact decide_eq_true hi⟩
    | false =>
      rw [if_neg (by simp), List.any_cons, hq, Bool.false_or]
      exact idx_some p q l (i + 1) (by omega) (fun y hy => h y (List.mem_cons_of_mem _ hy))
theorem any_eq {α : Type} (p : α → Option Bool) (q : α → Bool) (l : List α) (h : ∀ x ∈ l, p x = some (q x)) : anyF p l = some (l.any q) := by
  obtain ⟨r, hr, hd⟩ := idx_some p q l 0 (by omega) h
  rw [anyF, hr, Option.bind_some, hd]
def All (l : List S42) : Prop := l.length ≤ 8 ∧ ∀ t ∈ l, Sound t
def Fits (l : List S42) : Prop := ∀ t ∈ l, t.f3.length ≤ 20
noncomputable def code (P : Prop) : Int := if yes P = true then 0 else 1
theorem code_zero {P : Prop} : code P = 0 ↔ P := by
  unfold code
  by_cases h : P
  · rw [yes_true h]; simp [h]
  · rw [yes_false h]; simp [h]
theorem code_one {P : Prop} (h : ¬ P) : code P = 1 := by unfold code; rw [yes_false h]; rfl
theorem check_eq (l : List S42) (hf : Fits l) (k : Nat) (hk : 30 ≤ k) : choose_Check.f k l = some (code (All l)) := by
  unfold choose_Check.f
  by_cases h8 : (l.length : Int) > 8
  · rw [if_pos h8, code_one (fun h => by have := h.1; omega)]
  · rw [if_neg h8, any_eq (notSound k) (fun t => !yes (Sound t)) l (fun t ht => by
      have := hf t ht
      rw [notSound, sound_eq t (by omega) k (by omega), Option.bind_some]), Option.bind_some]
    congr 1
    by_cases h : ∀ t ∈ l, Sound t
    · rw [if_neg (by
        intro ha
        obtain ⟨t, ht, hs⟩ := List.any_eq_true.1 ha
        rw [yes_true (h t ht)] at hs
        exact Bool.noConfusion hs), code_zero.2 ⟨by omega, h⟩]
    · rw [if_pos (by
        obtain ⟨t, ht⟩ := Classical.not_forall.1 h
        obtain ⟨hm, hs⟩ := Classical.not_imp.1 ht
        exact List.any_eq_true.2 ⟨t, hm, by rw [yes_false hs]; rfl⟩), code_one (fun h' => h h'.2)]
def Means (l : List S42) (key : ByteArray) : Prop := All l ∧ ∀ t ∈ l, Takes t key
theorem meant_eq (l : List S42) (hf : Fits l) (key : ByteArray) (k : Nat) (hk : 30 ≤ k) : choose_Meant.f k l key = some (yes (Means l key)) := by
  unfold choose_Meant.f
  rw [check_eq l hf k hk, Option.bind_some]
  by_cases ha : All l
  · rw [if_pos (code_zero.2 ha), any_eq (notTakes k key) (fun t => !yes (Takes t key)) l (fun t ht => by
      rw [notTakes, takes_eq t (ha.2 t ht) key k (by omega), Option.bind_some]), Option.bind_some]
    congr 1
    by_cases h : ∀ t ∈ l, Takes t key
    · rw [yes_true (show Means l key from ⟨ha, h⟩), Bool.not_eq_true', Bool.eq_false_iff]
      intro h'
      obtain ⟨t, ht, hs⟩ := List.any_eq_true.1 h'
      rw [yes_true (h t ht)] at hs
      exact Bool.noConfusion hs
    · rw [yes_false (fun h' : Means l key => h h'.2), Bool.not_eq_false']
      obtain ⟨t, ht⟩ := Classical.not_forall.1 h
      obtain ⟨hm, hs⟩ := Classical.not_imp.1 ht
      exact List.any_eq_true.2 ⟨t, hm, by rw [yes_false hs]; rfl⟩
  · rw [if_neg (fun h => ha (code_zero.1 h)), yes_false (fun h : Means l key => ha h.1)]

/-! ### Lists of keys -/
theorem drop_at (l : List ByteArray) (i : Nat) (h : i < l.length) : l.drop i = l.getD i E :: l.drop (i + 1) := by
  rw [List.drop_eq_getElem_cons h, List.getD_eq_getElem?_getD, List.getElem?_eq_getElem h]; rfl
theorem keys_l0 (x0 : List S42) (hf : Fits x0) (l : List ByteArray) (hn : l.length ≤ 1000) : ∀ m k i acc, l.length = i + m → m + 30 < k → acc.length + m ≤ 10000 → 
    choose_Keys.l0 k x0 acc l (l.length : Int) (i : Int) = some (acc ++ (l.drop i).filter (fun key => yes (Means x0 key)))
  | 0, k, i, acc, hi, hk, ha => by
    obtain ⟨k, rfl⟩ : ∃ k', k = k' + 1 := ⟨k - 1, by omega⟩
    unfold choose_Keys.l0
    rw [if_neg (by omega), List.drop_of_length_le (by omega), List.filter_nil, List.append_nil]
  | m + 1, k, i, acc, hi, hk, ha => by
    obtain ⟨k, rfl⟩ : ∃ k', k = k' + 1 := ⟨k - 1, by omega⟩
    have hlt : i < l.length := by omega
    have ih := keys_l0 x0 hf l hn m k (i + 1)
    unfold choose_Keys.l0
    rw [if_pos (by omega), if_pos (by omega), if_pos (by omega), rd_nat, meant_eq x0 hf _ k (by omega), Option.bind_some, inc hlt hn, drop_at l i hlt]
    by_cases h : Means x0 (l.getD i E)
    · rw [if_pos (yes_true h), if_pos (by omega), ih _ (by omega) (by omega) (by rw [List.length_append, List.length_singleton]; omega), List.filter_cons_of_pos (p := fun key => yes (Means x0 key)) (yes_true h), List.append_assoc, List.singleton_append]
    · rw [if_neg (by rw [yes_false h]; exact Bool.noConfusion), ih _ (by omega) (by omega) (by omega), List.filter_cons_of_neg (p := fun key => yes (Means x0 key)) (by rw [yes_false h]; exact Bool.noConfusion)]
/-- The keys that are meant. -/
noncomputable def taken (l : List S42) (keys : List ByteArray) : List ByteArray := keys.filter (fun key => yes (Means l key))
theorem keys_eq (x0 : List S42) (hf : Fits x0) (l : List ByteArray) (hn : l.length ≤ 1000) (k : Nat) (hk : l.length + 30 < k) : choose_Keys.f k x0 l = some (taken x0 l) := by
  unfold choose_Keys.f
  rw [show (0 : Int) = ((0 : Nat) : Int) from rfl, keys_l0 x0 hf l hn l.length k 0 [] (by omega) hk (by rw [List.length_nil]; omega), List.nil_append, List.drop_zero]
  rfl
theorem strings_l0 (a b : List ByteArray) (hl : a.length = b.length) (hn : a.length ≤ 1000) : ∀ m k i, a.length = i + m → m < k → samphireref16_Strings.l0 k a b (i : Int) = some (yes (a.drop i = b.drop i))
  | 0, k, i, hi, hk => by
    obtain ⟨k, rfl⟩ : ∃ k', k = k' + 1 := ⟨k - 1, by omega⟩
    unfold samphireref16_Strings.l0
    rw [if_neg (by omega), yes_true (by rw [List.drop_of_length_le (by omega), List.drop_of_length_le (by omega)])]
  | m + 1, k, i, hi, hk => by
    obtain ⟨k, rfl⟩ : ∃ k', k = k' + 1 := ⟨k - 1, by omega⟩
    have hlt : i < a.length := by omega
    have ih := strings_l0 a b hl hn m k (i + 1) (by omega) (by omega)
    unfold samphireref16_Strings.l0
    rw [if_pos (by omega), if_pos (by omega), if_pos (by omega), rd_nat, rd_nat, inc hlt hn, ih, drop_at a i hlt, drop_at b i (by omega)]
    by_cases h : a.getD i E = b.getD i E
    · rw [if_pos ((list_iff _ _).2 h)]
      congr 1
      exact yes_congr ⟨fun h' => by rw [h, h'], fun h' => (List.cons.inj h').2⟩
    · rw [if_neg (fun h' => h ((list_iff _ _).1 h')), yes_false (fun h' => h (List.cons.inj h').1)]
theorem strings_eq (a b : List ByteArray) (hn : a.length ≤ 1000) (k : Nat) (hk : a.length < k) : samphireref16_Strings.f k a b = some (yes (a = b)) := by
  unfold samphireref16_Strings.f
  by_cases h : a.length = b.length
  · rw [if_pos (by omega), show (0 : Int) = ((0 : Nat) : Int) from rfl, strings_l0 a b h hn a.length k 0 (by omega) hk, List.drop_zero, List.drop_zero]
  · rw [if_neg (by omega), yes_false (fun h' => h (by rw [h']))]
def SmallK (l : List ByteArray) : Prop := l.length ≤ 60 ∧ ∀ j, j < l.length → (l.getD j E).size ≤ 100
theorem smallk_l0 (l : List ByteArray) (hn : l.length ≤ 1000) : ∀ m k i, l.length = i + m → m < k → samphireref16_Small.l0 k l (i : Int) = some (yes (∀ j, i ≤ j → j < l.length → (l.getD j E).size ≤ 100))
  | 0, k, i, hi, hk => by
    obtain ⟨k, rfl⟩ : ∃ k', k = k' + 1 := ⟨k - 1, by omega⟩
    unfold samphireref16_Small.l0
    rw [if_neg (by omega), yes_true (fun j h1 h2 => by omega)]
  | m + 1, k, i, hi, hk => by
    obtain ⟨k, rfl⟩ : ∃ k', k = k' + 1 := ⟨k - 1, by omega⟩
    have hlt : i < l.length := by omega
    have ih := smallk_l0 l hn m k (i + 1) (by omega) (by omega)
    unfold samphireref16_Small.l0
    rw [if_pos (by omega), if_pos (by omega), rd_nat, inc hlt hn, ih, upto (P := fun j => (l.getD j E).size ≤ 100) hlt]
    by_cases h : (l.getD i E).size ≤ 100
    · rw [if_neg (by omega)]
      congr 1
      exact yes_congr ⟨fun h' => ⟨h, h'⟩, fun h' => h'.2⟩
    · rw [if_pos (by omega), yes_false (fun h' => h h'.1)]
theorem smallk_eq (l : List ByteArray) (k : Nat) (hk : 70 ≤ k) : samphireref16_Small.f k l = some (yes (SmallK l)) := by
  unfold samphireref16_Small.f
  by_cases h : (l.length : Int) > 60
  · rw [if_pos h, yes_false (fun h' => by have := h'.1; omega)]
  · rw [if_neg h, show (0 : Int) = ((0 : Nat) : Int) from rfl, smallk_l0 l (by omega) l.length k 0 (by omega) (by omega)]
    congr 1
    exact yes_congr ⟨fun h' => ⟨by omega, fun j hj => h' j (Nat.zero_le _) hj⟩, fun h' j _ hj => h'.2 j hj⟩

/-! ### Both of two -/
theorem both_eq (a b : List S42) (ha : Fits a) (hb : Fits b) (hl : a.length + b.length ≤ 1000) (k : Nat) (hk : 30 ≤ k) :
    choose_Both.f k a b = some (if yes (All a ∧ All b ∧ a.length + b.length ≤ 8) = true then (a ++ b, 0) else ([], 1)) := by
  unfold choose_Both.f
  rw [if_pos (by omega), check_eq a ha k hk, Option.bind_some]
  by_cases h1 : All a
  · rw [if_pos (code_zero.2 h1), check_eq b hb k hk, Option.bind_some]
    by_cases h2 : All b
    · rw [if_pos (code_zero.2 h2), List.length_append]
      by_cases h3 : a.length + b.length ≤ 8
      · rw [if_neg (by omega), if_pos (yes_true ⟨h1, h2, h3⟩)]
      · rw [if_pos (by omega), if_neg (by rw [yes_false (fun h => h3 h.2.2)]; exact Bool.noConfusion)]
    · rw [if_neg (fun h => h2 (code_zero.1 h)), if_neg (by rw [yes_false (fun h => h2 h.2.1)]; exact Bool.noConfusion)]
  · rw [if_neg (fun h => h1 (code_zero.1 h)), if_neg (by rw [yes_false (fun h => h1 h.1)]; exact Bool.noConfusion)]
end Go.Proofs.Ytnpipaehcklnbaa.Cho
