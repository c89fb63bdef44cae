/- Chapter 14 in plain Lean, part 2: the law's views of a sample, when it is right, and adding to it. -/
import Derived.Test.YtmfffbafldbihaaHx6
import Derived.Test.YtmfffbafldbihaaHx7
import Derived.Test.YtmfffbafldbihaaHx15
import Derived.Test.YtmfffbafldbihaaHx10
import Derived.Test.YtmfffbafldbihaaHx13
import Derived.Test.YtmfffbafldbihaaHx14
import Derived.Test.YtmfffbafldbihaaHx17
import Derived.Test.YtmfffbafldbihaaBo1
set_option linter.unusedVariables false
set_option linter.unusedSimpArgs false
namespace Go.Proofs.Ytmfffbafldbihaa.Bo
open Go.RowKit Go.Proofs.Ytmfffbafldbihaa.H Go.Proofs.YtmfffbafldbihaaW.PrintWords Go.Proofs.YtmfffbafldbihaaW.PrintMore

theorem awake_eq (k : Nat) (hk : 60 ≤ k) : samphirelaw14_awake.f k = some true := by
  have h := samphirelaw14_awake.up (k - 60) 60 samphirelaw14_awake.atK
  rwa [show 60 + (k - 60) = k by omega] at h
theorem awake_bind (k : Nat) (hk : 60 ≤ k) : ((samphirelaw14_awake.f k).bind fun t => some t) = some true := by rw [awake_eq k hk]; rfl

/-! ### Entries as the document's -/
def cv (x : S62) : S60 := ⟨x.f0, x.f1, ⟨x.f2.f0, x.f2.f1⟩⟩
theorem cv_inj {x y : S62} (h : cv x = cv y) : x = y := by
  obtain ⟨a, b, c, d⟩ := x
  obtain ⟨a', b', c', d'⟩ := y
  unfold cv at h
  simp only [S60.mk.injEq, S50.mk.injEq] at h
  obtain ⟨rfl, rfl, rfl, rfl⟩ := h
  rfl
theorem map_cv_inj : ∀ {l m : List S62}, l.map cv = m.map cv → l = m
  | [], [], _ => rfl
  | [], _ :: _, h => by simp at h
  | _ :: _, [], h => by simp at h
  | x :: l, y :: m, h => by
    simp only [List.map_cons, List.cons.injEq] at h
    rw [cv_inj h.1, map_cv_inj h.2]
def G (l : List S62) (i : Nat) : S62 := l.getD i z62
def D (l : List S60) (i : Nat) : S60 := l.getD i z60
theorem G_rd (l : List S62) (i : Nat) : rd_T62 l (i : Int) = G l i := by show l.getD (i : Int).toNat z62 = _; rw [Int.toNat_natCast]; rfl
theorem D_rd (l : List S60) (i : Nat) : rd_T60 l (i : Int) = D l i := by show l.getD (i : Int).toNat z60 = _; rw [Int.toNat_natCast]; rfl
theorem G_get {l : List S62} {i : Nat} (h : i < l.length) : G l i = l[i] := by unfold G; rw [List.getD_eq_getElem?_getD, List.getElem?_eq_getElem h]; rfl
theorem D_get {l : List S60} {i : Nat} (h : i < l.length) : D l i = l[i] := by unfold D; rw [List.getD_eq_getElem?_getD, List.getElem?_eq_getElem h]; rfl
theorem D_map {l : List S62} {i : Nat} (h : i < l.length) : D (l.map cv) i = cv (G l i) := by rw [D_get (by simpa using h), G_get h, List.getElem_map]
theorem refs_l0 (l : List S62) (hn : l.length < 3518437208883) : ∀ m k i, l.length = i + m → m < k → samphirelaw14_Refs.l0 k ((l.take i).map cv) l (l.length : Int) (i : Int) = some (l.map cv)
  | 0, k, i, hi, hk => by
    obtain ⟨k, rfl⟩ : ∃ k', k = k' + 1 := ⟨k - 1, by omega⟩
    unfold samphirelaw14_Refs.l0
    rw [if_neg (by omega), List.take_of_length_le (by omega)]
  | m + 1, k, i, hi, hk => by
    obtain ⟨k, rfl⟩ : ∃ k', k = k' + 1 := ⟨k - 1, by omega⟩
    have ih := refs_l0 l hn m k (i + 1) (by omega) (by omega)
    have hw : wrap64 ((i : Int) + 1) = ((i + 1 : Nat) : Int) := by unfold wrap64; omega
    unfold samphirelaw14_Refs.l0
    rw [if_pos (by omega), if_pos (by omega), if_pos (by omega), if_pos (by rw [List.length_map, List.length_take]; omega), G_rd, hw]
    have e : (l.take i).map cv ++ [cv (G l i)] = (l.take (i + 1)).map cv := by
      rw [List.take_add_one, List.map_append, List.getElem?_eq_getElem (by omega), G_get (by omega)]
      rfl
    rw [← e] at ih
    exact ih
theorem refs_eq (l : List S62) (hn : l.length < 3518437208883) (k : Nat) (hk : l.length < k) : samphirelaw14_Refs.f k l = some (l.map cv) := by
  unfold samphirelaw14_Refs.f
  exact refs_l0 l hn l.length k 0 (by omega) (by omega)
theorem ref_eq (a b K : Int) (l : List S62) (hn : l.length < 3518437208883) (k : Nat) (hk : l.length < k) : samphirelaw14_ref.f k a b K l = some (a, b, K, l.map cv) := by
  unfold samphirelaw14_ref.f
  rw [refs_eq l hn k hk, Option.bind_some]
/-! ### Few entries, short keys -/
def Small (l : List S62) : Prop := l.length ≤ 60 ∧ ∀ x ∈ l, x.f0.size ≤ 100
theorem small_l0 (a b K : Int) (l : List S62) (hn : l.length ≤ 60) : ∀ m k i, l.length = i + m → m < k → samphireref14_Small.l0 k (i : Int) a b K (l.map cv) = some (yes (∀ j, i ≤ j → j < l.length → (G l j).f0.size ≤ 100))
  | 0, k, i, hi, hk => by
    obtain ⟨k, rfl⟩ : ∃ k', k = k' + 1 := ⟨k - 1, by omega⟩
    unfold samphireref14_Small.l0
    rw [List.length_map, if_neg (by omega), yes_true (fun j h1 h2 => by omega)]
  | m + 1, k, i, hi, hk => by
    obtain ⟨k, rfl⟩ : ∃ k', k = k' + 1 := ⟨k - 1, by omega⟩
    have ih := small_l0 a b K l hn m k (i + 1) (by omega) (by omega)
    unfold samphireref14_Small.l0
    rw [List.length_map, if_pos (by omega), if_pos (by omega), D_rd, D_map (by omega), inc (show i < 60 by omega) (by omega), ih]
    by_cases h : ((cv (G l i)).f0.size : Int) > 100
    · rw [if_pos h, yes_false (fun hh => by have := hh i (Nat.le_refl _) (by omega); have : ((G l i).f0.size : Int) > 100 := h; omega)]
    · rw [if_neg h]
      congr 1
      apply yes_congr
      have h' : (G l i).f0.size ≤ 100 := by have : ¬ ((G l i).f0.size : Int) > 100 := h; omega
      exact ⟨fun hh j h1 h2 => by rcases Nat.eq_or_lt_of_le h1 with e | e; exact e ▸ h'; exact hh j e h2, fun hh j h1 h2 => hh j (by omega) h2⟩
theorem small_eq (a b K : Int) (l : List S62) (k : Nat) (hk : 61 ≤ k) : samphireref14_Small.f k a b K (l.map cv) = some (yes (Small l)) := by
  unfold samphireref14_Small.f
  rw [List.length_map]
  by_cases h : l.length ≤ 60
  · rw [if_neg (by omega), show (0 : Int) = ((0 : Nat) : Int) from rfl, small_l0 a b K l h l.length k 0 (by omega) (by omega)]
    congr 1
    apply yes_congr
    unfold Small
    constructor
    · intro hh
      refine ⟨h, fun x hx => ?_⟩
      obtain ⟨j, hj, rfl⟩ := List.getElem_of_mem hx
      rw [← G_get hj]
      exact hh j (Nat.zero_le _) hj
    · intro hh j _ hj
      rw [G_get hj]
      exact hh.2 _ (List.getElem_mem hj)
  · rw [if_pos (by omega), yes_false (fun hh => h hh.1)]
/-! ### Equal lists -/
theorem same_l0 (l m : List S60) (hlm : l.length = m.length) (hn : l.length ≤ 9000) : ∀ n k i, l.length = i + n → n < k → samphireref14_Same.l0 k l m (i : Int) = some (yes (∀ j, i ≤ j → j < l.length → D l j = D m j))
  | 0, k, i, hi, hk => by
    obtain ⟨k, rfl⟩ : ∃ k', k = k' + 1 := ⟨k - 1, by omega⟩
    unfold samphireref14_Same.l0
    rw [if_neg (by omega), yes_true (fun j h1 h2 => by omega)]
  | n + 1, k, i, hi, hk => by
    obtain ⟨k, rfl⟩ : ∃ k', k = k' + 1 := ⟨k - 1, by omega⟩
    have ih := same_l0 l m hlm hn n k (i + 1) (by omega) (by omega)
    unfold samphireref14_Same.l0
    rw [if_pos (by omega), if_pos (by omega), if_pos (by omega), D_rd, D_rd, inc (show i < l.length by omega) (by omega), ih]
    by_cases h : D l i = D m i
    · rw [h, if_neg (by simp)]
      congr 1
      apply yes_congr
      exact ⟨fun hh j h1 h2 => by rcases Nat.eq_or_lt_of_le h1 with e | e; exact e ▸ h; exact hh j e h2, fun hh j h1 h2 => hh j (by omega) h2⟩
    · rw [if_pos ?_, yes_false (fun hh => h (hh i (Nat.le_refl _) (by omega)))]
      apply Classical.byContradiction
      intro hc
      apply h
      simp only [Bool.or_eq_true, Bool.not_eq_true', beq_eq_false_iff_ne, ne_eq, not_or, Decidable.not_not] at hc
      obtain ⟨h1, h2, h3, h4⟩ := hc
      revert h1 h2 h3 h4
      generalize D l i = x
      generalize D m i = y
      obtain ⟨p, q, r, s⟩ := x
      obtain ⟨p', q', r', s'⟩ := y
      intro h1 h2 h3 h4
      have h0 := list_inj h1
      simp only at h0 h2 h3 h4
      rw [h0, h2, h3, h4]
theorem rsame_eq (l m : List S60) (hn : l.length ≤ 9000) (k : Nat) (hk : 9001 ≤ k) : samphireref14_Same.f k l m = some (yes (l = m)) := by
  unfold samphireref14_Same.f
  by_cases h : l.length = m.length
  · rw [if_pos (by omega), show (0 : Int) = ((0 : Nat) : Int) from rfl, same_l0 l m h hn l.length k 0 (by omega) (by omega)]
    congr 1
    apply yes_congr
    constructor
    · intro hh
      apply List.ext_getElem h
      intro i h1 h2
      rw [← D_get h1, ← D_get h2]
      exact hh i (Nat.zero_le _) h1
    · rintro rfl j _ _
      rfl
  · rw [if_neg (by omega), yes_false (fun e => h (by rw [e]))]
theorem same_eq (a b K a' b' K' : Int) (l : List S62) (m : List S60) (hn : l.length ≤ 9000) (k : Nat) (hk : 9001 ≤ k) : samphirelaw14_same.f k a b K l a' b' K' m = some (yes ((a = a' ∧ b = b') ∧ K = K' ∧ l.map cv = m)) := by
  unfold samphirelaw14_same.f
  by_cases h : a = a' ∧ b = b'
  · rw [if_pos (by simp [h.1, h.2])]
    by_cases h2 : K = K'
    · rw [if_pos h2, refs_eq l (by omega) k (by omega), Option.bind_some, rsame_eq _ _ (by rw [List.length_map]; exact hn) k hk, Option.bind_some]
      congr 1
      apply yes_congr
      exact ⟨fun hh => ⟨h, h2, hh⟩, fun hh => hh.2.2⟩
    · rw [if_neg h2, yes_false (fun hh => h2 hh.2.1)]
  · rw [if_neg (by simpa using h), yes_false (fun hh => h hh.1)]
/-! ### A right sample -/
def H (a b : Int) (key : ByteArray) : Int := Sip.sum a b key.data.toList
theorem H_rng (a b : Int) (key : ByteArray) : 0 ≤ H a b key ∧ H a b key < 18446744073709551616 := by
  unfold H Sip.sum Sip.fin Sip.out4 Sip.xr
  exact Sip.bits_range _ _ _
def Ge (a b : Int) (x : S62) : Prop := x.f0.size ≤ 64 ∧ x.f1 = H a b x.f0 ∧ ¬ (x.f2.f0 = 0 ∧ x.f2.f1 = 0)
def Adj (a b : Int) (l : List S62) (i : Nat) : Prop := ∀ j, i ≤ j → j < l.length → Ge a b (G l j) ∧ (0 < j → cp (G l (j - 1)) (G l j) < 0)
theorem right_l0 (a b K : Int) (l : List S62) (hn : l.length ≤ 1025) : ∀ m k i, l.length = i + m → m + 30 < k → bottom_Right.l0 k l (l.length : Int) (i : Int) a b K l = some (yes (Adj a b l i))
  | 0, k, i, hi, hk => by
    obtain ⟨k, rfl⟩ : ∃ k', k = k' + 1 := ⟨k - 1, by omega⟩
    unfold bottom_Right.l0
    rw [if_neg (by omega), yes_true (P := Adj a b l i) (fun j h1 h2 => by omega)]
  | m + 1, k, i, hi, hk => by
    obtain ⟨k, rfl⟩ : ∃ k', k = k' + 1 := ⟨k - 1, by omega⟩
    have ih := right_l0 a b K l hn m k (i + 1) (by omega) (by omega)
    have hi' : i < l.length := by omega
    unfold bottom_Right.l0
    rw [if_pos (by omega), if_pos (by omega), if_pos (by omega), G_rd]
    have no : ∀ {P : Prop}, ¬ P → (Adj a b l i → P) → (some false : Option Bool) = some (yes (Adj a b l i)) := fun h1 h2 => by rw [yes_false (fun h => h1 (h2 h))]
    by_cases h1 : ((G l i).f0.size : Int) > 64
    · rw [if_pos h1]
      exact no (P := (G l i).f0.size ≤ 64) (by omega) (fun h => (h i (Nat.le_refl _) hi').1.1)
    · rw [if_neg h1, Sip.sum_eq a b (G l i).f0 (by omega) k (by omega), Option.bind_some]
      by_cases h2 : (G l i).f1 = Sip.sum a b (G l i).f0.data.toList
      · rw [if_pos h2]
        by_cases h3 : (G l i).f2.f0 = 0 ∧ (G l i).f2.f1 = 0
        · rw [if_pos (by simp [h3.1, h3.2])]
          exact no (P := ¬ ((G l i).f2.f0 = 0 ∧ (G l i).f2.f1 = 0)) (fun h => h h3) (fun h => (h i (Nat.le_refl _) hi').1.2.2)
        · rw [if_neg (by simpa using h3)]
          have hg : Ge a b (G l i) := ⟨by omega, h2, h3⟩
          have step : (0 < i → cp (G l (i - 1)) (G l i) < 0) → some (yes (Adj a b l (i + 1))) = some (yes (Adj a b l i)) := fun hc => by
            congr 1
            apply yes_congr
            exact ⟨fun hh j h1 h2 => by rcases Nat.eq_or_lt_of_le h1 with e | e; exact e ▸ ⟨hg, hc⟩; exact hh j e h2, fun hh j h1 h2 => hh j (by omega) h2⟩
          rw [inc hi' (by omega), ih]
          by_cases h4 : i = 0
          · rw [if_neg (by omega)]
            exact step (fun h => by omega)
          · have e : wrap64 ((i : Int) - 1) = ((i - 1 : Nat) : Int) := by rw [w64 (by omega) (by omega)]; omega
            rw [if_pos (by omega), e, if_pos (by omega), if_pos (by omega), G_rd, compare_eq _ _ k (by omega), Option.bind_some]
            by_cases h5 : cp (G l (i - 1)) (G l i) ≥ 0
            · rw [if_pos h5]
              exact no (P := cp (G l (i - 1)) (G l i) < 0) (by omega) (fun h => (h i (Nat.le_refl _) hi').2 (by omega))
            · rw [if_neg h5]
              exact step (fun _ => by omega)
      · rw [if_neg h2]
        exact no (P := (G l i).f1 = H a b (G l i).f0) h2 (fun h => (h i (Nat.le_refl _) hi').1.2.1)
def Rt (a b K : Int) (l : List S62) : Prop := (1 ≤ K ∧ K ≤ 1024) ∧ (l.length : Int) ≤ K + 1 ∧ (∀ x ∈ l, Ge a b x) ∧ Srt l
theorem adj_srt : ∀ (l : List S62), (∀ j, 0 < j → j < l.length → cp (G l (j - 1)) (G l j) < 0) → Srt l
  | [], _ => List.Pairwise.nil
  | y :: l, h => by
    have ih := adj_srt l (fun j h1 h2 => by
      have := h (j + 1) (by omega) (by simpa using h2)
      rw [Nat.add_sub_cancel] at this
      obtain ⟨j, rfl⟩ : ∃ j', j = j' + 1 := ⟨j - 1, by omega⟩
      exact this)
    refine List.pairwise_cons.2 ⟨fun z hz => ?_, ih⟩
    cases l with
    | nil => cases hz
    | cons u l =>
      have h1 : cp y u < 0 := h 1 (by omega) (by simp)
      rcases List.mem_cons.1 hz with rfl | hz
      · exact h1
      · exact cp_trans h1 ((List.pairwise_cons.1 ih).1 z hz)
theorem rt_adj (a b : Int) (l : List S62) : Adj a b l 0 ↔ (∀ x ∈ l, Ge a b x) ∧ Srt l := by
  constructor
  · intro h
    refine ⟨fun x hx => ?_, adj_srt l (fun j h1 h2 => (h j (Nat.zero_le _) h2).2 h1)⟩
    obtain ⟨j, hj, rfl⟩ := List.getElem_of_mem hx
    rw [← G_get hj]
    exact (h j (Nat.zero_le _) hj).1
  · rintro ⟨h1, h2⟩ j _ hj
    refine ⟨by rw [G_get hj]; exact h1 _ (List.getElem_mem hj), fun h0 => ?_⟩
    rw [G_get hj, G_get (by omega)]
    exact List.pairwise_iff_getElem.1 h2 (j - 1) j (by omega) hj (by omega)
theorem right_eq (a b K : Int) (l : List S62) (k : Nat) (hk : 1100 ≤ k) : bottom_Right.f k a b K l = some (yes (Rt a b K l)) := by
  obtain ⟨k, rfl⟩ : ∃ k', k = k' + 1 := ⟨k - 1, by omega⟩
  have no : ¬ Rt a b K l → bottom_Right.j0 (k + 1) true a b K l = some (yes (Rt a b K l)) := fun h => by rw [bottom_Right.j0, if_pos rfl, yes_false h]
  unfold bottom_Right.f
  by_cases h1 : K < 1
  · rw [if_pos h1]
    exact no (fun h => by have := h.1.1; omega)
  · rw [if_neg h1]
    by_cases h2 : K > 1024
    · rw [if_pos h2]
      exact no (fun h => by have := h.1.2; omega)
    · rw [if_neg h2, w64 (by omega) (by omega)]
      by_cases h3 : (l.length : Int) > K + 1
      · rw [decide_eq_true h3]
        exact no (fun h => by have := h.2.1; omega)
      · rw [decide_eq_false h3, bottom_Right.j0, if_neg (by decide), show (0 : Int) = ((0 : Nat) : Int) from rfl, right_l0 a b K l (by omega) l.length k 0 (by omega) (by omega)]
        congr 1
        apply yes_congr
        rw [rt_adj]
        exact ⟨fun h => ⟨⟨by omega, by omega⟩, by omega, h⟩, fun h => h.2.2⟩
/-! ### Adding -/
/-- The entry of a key that comes n times. -/
def en (a b : Int) (key : ByteArray) (n : Int) : S62 := ⟨key, H a b key, ⟨0, n⟩⟩
theorem en_rng {a b : Int} {key : ByteArray} {n : Int} (h0 : 0 ≤ n) (h1 : n ≤ 18446744073709551615) : Rng (en a b key n).f2 := ⟨⟨by show (0 : Int) ≤ 0; omega, by show (0 : Int) < _; omega⟩, h0, by show n < _; omega⟩
theorem Add_eq (a b : Int) (K : Nat) (l : List S62) (h : Rt a b K l) (hr : Rl l) (key : ByteArray) (n : Int) (hs : key.size ≤ 64) (h0 : 0 < n) (h1 : n ≤ 18446744073709551615) (k : Nat) (hk : 1100 ≤ k) :
    bottom_Add.f k a b (K : Int) l key n = some (res a b K l (ins (en a b key n) l)) := by
  have hl : l.length ≤ 1025 := by have := h.1; have := h.2.1; omega
  unfold bottom_Add.f
  rw [right_eq a b K l k hk, Option.bind_some, if_pos (yes_true h), if_neg (by omega), if_neg (by omega), Sip.sum_eq a b key (by omega) k (by omega), Option.bind_some]
  unfold wide_Of.f
  rw [Option.bind_some]
  have := add_eq a b K (by have := h.1.2; omega) l (by omega) h.2.2.2 hr (en a b key n) (en_rng (by omega) h1) k (by omega)
  simp only
  rw [show bottom_add.f k a b (K : Int) l key (Sip.sum a b key.data.toList) 0 n = _ from this, Option.bind_some]
end Go.Proofs.Ytmfffbafldbihaa.Bo
