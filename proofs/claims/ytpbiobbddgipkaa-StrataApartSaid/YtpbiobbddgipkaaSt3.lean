/- Chapter 21 in plain Lean, part 3: entries as the document's. -/
import Derived.Test.YtpbiobbddgipkaaHx19
import Derived.Test.YtpbiobbddgipkaaSt2
set_option linter.unusedVariables false
set_option linter.unusedSimpArgs false
namespace Go.Proofs.Ytpbiobbddgipkaa.Bo
open Go.RowKit Go.Proofs.Ytpbiobbddgipkaa.H Go.Proofs.YtpbiobbddgipkaaW.PrintWords Go.Proofs.YtpbiobbddgipkaaW.PrintMore

def cv (x : S87) : S68 := ⟨x.f0, x.f1, ⟨x.f2.f0, x.f2.f1⟩⟩
theorem cv_inj {x y : S87} (h : cv x = cv y) : x = y := by
  obtain ⟨a, b, c, d⟩ := x
  obtain ⟨a', b', c', d'⟩ := y
  unfold cv at h
  simp only [S68.mk.injEq, S65.mk.injEq] at h
  obtain ⟨rfl, rfl, rfl, rfl⟩ := h
  rfl
theorem map_cv_inj : ∀ {l m : List S87}, l.map cv = m.map cv → l = m
  | [], [], _ => rfl
  | [], _ :: _, h => by simp at h
  | _ :: _, [], h => by simp at h
  | x :: l, y :: m, h => by
    simp only [List.map_cons, List.cons.injEq] at h
    rw [cv_inj h.1, map_cv_inj h.2]
def D (l : List S68) (i : Nat) : S68 := l.getD i z68
theorem D_rd (l : List S68) (i : Nat) : rd_T68 l (i : Int) = D l i := by show l.getD (i : Int).toNat z68 = _; rw [Int.toNat_natCast]; rfl
theorem D_get {l : List S68} {i : Nat} (h : i < l.length) : D l i = l[i] := by unfold D; rw [List.getD_eq_getElem?_getD, List.getElem?_eq_getElem h]; rfl
theorem D_map {l : List S87} {i : Nat} (h : i < l.length) : D (l.map cv) i = cv (G l i) := by rw [D_get (by simpa using h), G_get h, List.getElem_map]
theorem refs_l0 (l : List S87) (hn : l.length < 3518437208883) : ∀ m k i, l.length = i + m → m < k → samphirelaw14_Refs.l0 k ((l.take i).map cv) l (l.length : Int) (i : Int) = some (l.map cv)
  | 0, k, i, hi, hk => by
    obtain ⟨k, rfl⟩ : ∃ k', k = k' + 1 := ⟨k - 1, by omega⟩
    unfold samphirelaw14_Refs.l0
    rw [if_neg (by omega), List.take_of_length_le (by omega)]
  | m + 1, k, i, hi, hk => by
    obtain ⟨k, rfl⟩ : ∃ k', k = k' + 1 := ⟨k - 1, by omega⟩
    have ih := refs_l0 l hn m k (i + 1) (by omega) (by omega)
    have hw : wrap64 ((i : Int) + 1) = ((i + 1 : Nat) : Int) := by unfold wrap64; omega
    unfold samphirelaw14_Refs.l0
    rw [if_pos (by omega), if_pos (by omega), if_pos (by omega), if_pos (by rw [List.length_map, List.length_take]; omega), G_rd, hw]
    have e : (l.take i).map cv ++ [cv (G l i)] = (l.take (i + 1)).map cv := by
      rw [List.take_add_one, List.map_append, List.getElem?_eq_getElem (by omega), G_get (by omega)]
      rfl
    rw [← e] at ih
    exact ih
theorem refs_eq (l : List S87) (hn : l.length < 3518437208883) (k : Nat) (hk : l.length < k) : samphirelaw14_Refs.f k l = some (l.map cv) := by
  unfold samphirelaw14_Refs.f
  exact refs_l0 l hn l.length k 0 (by omega) (by omega)
theorem same_l0 (l m : List S68) (hlm : l.length = m.length) (hn : l.length ≤ 9000) : ∀ n k i, l.length = i + n → n < k → samphireref14_Same.l0 k l m (i : Int) = some (yes (∀ j, i ≤ j → j < l.length → D l j = D m j))
  | 0, k, i, hi, hk => by
    obtain ⟨k, rfl⟩ : ∃ k', k = k' + 1 := ⟨k - 1, by omega⟩
    unfold samphireref14_Same.l0
    rw [if_neg (by omega), yes_true (fun j h1 h2 => by omega)]
  | n + 1, k, i, hi, hk => by
    obtain ⟨k, rfl⟩ : ∃ k', k = k' + 1 := ⟨k - 1, by omega⟩
    have ih := same_l0 l m hlm hn n k (i + 1) (by omega) (by omega)
    unfold samphireref14_Same.l0
    rw [if_pos (by omega), if_pos (by omega), if_pos (by omega), D_rd, D_rd, inc (show i < l.length by omega) (by omega), ih]
    by_cases h : D l i = D m i
    · rw [h, if_neg (by simp)]
      congr 1
      apply yes_congr
      exact ⟨fun hh j h1 h2 => by rcases Nat.eq_or_lt_of_le h1 with e | e; exact e ▸ h; exact hh j e h2, fun hh j h1 h2 => hh j (by omega) h2⟩
    · rw [if_pos ?_, yes_false (fun hh => h (hh i (Nat.le_refl _) (by omega)))]
      apply Classical.byContradiction
      intro hc
      apply h
      simp only [Bool.or_eq_true, Bool.not_eq_true', beq_eq_false_iff_ne, ne_eq, not_or, Decidable.not_not] at hc
      obtain ⟨h1, h2, h3, h4⟩ := hc
      revert h1 h2 h3 h4
      generalize D l i = x
      generalize D m i = y
      obtain ⟨p, q, r, s⟩ := x
      obtain ⟨p', q', r', s'⟩ := y
      intro h1 h2 h3 h4
      have h0 := list_inj h1
      simp only at h0 h2 h3 h4
      rw [h0, h2, h3, h4]
theorem rsame_eq (l m : List S68) (hn : l.length ≤ 9000) (k : Nat) (hk : 9001 ≤ k) : samphireref14_Same.f k l m = some (yes (l = m)) := by
  unfold samphireref14_Same.f
  by_cases h : l.length = m.length
  · rw [if_pos (by omega), show (0 : Int) = ((0 : Nat) : Int) from rfl, same_l0 l m h hn l.length k 0 (by omega) (by omega)]
    congr 1
    apply yes_congr
    constructor
    · intro hh
      apply List.ext_getElem h
      intro i h1 h2
      rw [← D_get h1, ← D_get h2]
      exact hh i (Nat.zero_le _) h1
    · rintro rfl j _ _
      rfl
  · rw [if_neg (by omega), yes_false (fun e => h (by rw [e]))]
end Go.Proofs.Ytpbiobbddgipkaa.Bo
