/- Chapter 19 in plain Lean, part 3: the document's side. -/
import Derived.Test.YtnpipaehcklnbaaCho2
import Derived.Test.YtnpipaehcklnbaaHx2
import Derived.Test.YtnpipaehcklnbaaHx4
import Derived.Test.YtnpipaehcklnbaaHx5
import Derived.Test.YtnpipaehcklnbaaHx6
import Derived.Test.YtnpipaehcklnbaaHx8
set_option linter.unusedVariables false
set_option linter.unusedSimpArgs false
namespace Go.Proofs.Ytnpipaehcklnbaa.Cho
open Go.RowKit Go.Proofs.Ytnpipaehcklnbaa.H Go.Proofs.YtnpipaehcklnbaaW.PrintWords Go.Proofs.YtnpipaehcklnbaaW.PrintMore

/-- A term as the document has it, and back. -/
def conv (t : S42) : S46 := ⟨t.f0, t.f1, t.f2, t.f3⟩
def bk (t : S46) : S42 := ⟨t.f0, t.f1, t.f2, t.f3⟩
theorem bk_conv (l : List S42) : (l.map conv).map bk = l := by
  rw [List.map_map]
  exact (List.map_congr_left (fun x _ => rfl)).trans (List.map_id l)
theorem rd42 (l : List S42) (i : Nat) : rd_T42 l (i : Int) = l.getD i z42 := rfl
theorem rd46 (l : List S46) (i : Nat) : rd_T46 l (i : Int) = l.getD i z46 := rfl
theorem drop42 (l : List S42) (i : Nat) (h : i < l.length) : l.drop i = l.getD i z42 :: l.drop (i + 1) := by
  rw [List.drop_eq_getElem_cons h, List.getD_eq_getElem?_getD, List.getElem?_eq_getElem h]; rfl
theorem drop46 (l : List S46) (i : Nat) (h : i < l.length) : l.drop i = l.getD i z46 :: l.drop (i + 1) := by
  rw [List.drop_eq_getElem_cons h, List.getD_eq_getElem?_getD, List.getElem?_eq_getElem h]; rfl
theorem mem46 (l : List S46) (i : Nat) (h : i < l.length) : l.getD i z46 ∈ l := by
  rw [List.getD_eq_getElem?_getD, List.getElem?_eq_getElem h]
  exact List.getElem_mem h
theorem incB {i n : Nat} (h : i < n) (hn : n ≤ 2199023255552) : wrap64 ((i : Int) + 1) = ((i + 1 : Nat) : Int) := by unfold wrap64; omega
theorem refs_l0 (l : List S42) (hn : l.length ≤ 2199023255552) : ∀ m k i acc, l.length = i + m → m < k → acc.length = i → samphirelaw19_Refs.l0 k acc l (l.length : Int) (i : Int) = some (acc ++ (l.drop i).map conv)
  | 0, k, i, acc, hi, hk, ha => by
    obtain ⟨k, rfl⟩ : ∃ k', k = k' + 1 := ⟨k - 1, by omega⟩
    unfold samphirelaw19_Refs.l0
    rw [if_neg (by omega), List.drop_of_length_le (by omega), List.map_nil, List.append_nil]
  | m + 1, k, i, acc, hi, hk, ha => by
    obtain ⟨k, rfl⟩ : ∃ k', k = k' + 1 := ⟨k - 1, by omega⟩
    have hlt : i < l.length := by omega
    unfold samphirelaw19_Refs.l0
    rw [if_pos (by omega), if_pos (by omega), if_pos (by omega), if_pos (by omega), rd42, incB hlt hn, refs_l0 l hn m k (i + 1) _ (by omega) (by omega) (by rw [List.length_append, List.length_singleton]; omega), drop42 l i hlt, List.map_cons, List.append_assoc, List.singleton_append]
    rfl
theorem refs_eq (l : List S42) (hn : l.length ≤ 2199023255552) (k : Nat) (hk : l.length < k) : samphirelaw19_Refs.f k l = some (l.map conv) := by
  unfold samphirelaw19_Refs.f
  rw [show (0 : Int) = ((0 : Nat) : Int) from rfl, refs_l0 l hn l.length k 0 [] (by omega) hk rfl, List.drop_zero, List.nil_append]

/-! ### Small -/
def SmallT (r : List S46) : Prop := r.length ≤ 20 ∧ ∀ t ∈ r, t.f3.length ≤ 20
theorem small_loops (r : List S46) (hn : r.length ≤ 20) : ∀ m k i : Nat, r.length = i + m → 30 * m < k → (∀ q, q < i → (r.getD q z46).f3.length ≤ 20) →
    ∃ b, samphireref19_Small.l0 k r (i : Int) = some b ∧ (b = true → ∀ q, q < r.length → (r.getD q z46).f3.length ≤ 20)
  | 0, k, i, hi, hk, h => by
    obtain ⟨k, rfl⟩ : ∃ k', k = k' + 1 := ⟨k - 1, by omega⟩
    unfold samphireref19_Small.l0
    rw [if_neg (by omega)]
    exact ⟨true, rfl, fun _ q hq => h q (by omega)⟩
  | m + 1, k, i, hi, hk, h => by
    obtain ⟨k, rfl⟩ : ∃ k', k = k' + 2 := ⟨k - 2, by omega⟩
    have hlt : i < r.length := by omega
    have inner : ∀ m2 k2 q : Nat, (r.getD i z46).f3.length = q + m2 → 30 * m + m2 + 1 < k2 → (r.getD i z46).f3.length ≤ 20 → 
        ∃ b, samphireref19_Small.l1 k2 r (i : Int) (q : Int) = some b ∧ (b = true → ∀ q, q < r.length → (r.getD q z46).f3.length ≤ 20) := by
      intro m2
      induction m2 with
      | zero =>
        intro k2 q hq hk2 h20
        obtain ⟨k2, rfl⟩ : ∃ k', k2 = k' + 1 := ⟨k2 - 1, by omega⟩
        unfold samphireref19_Small.l1
        rw [if_pos (by omega), if_pos (by omega), rd46, if_neg (by omega), inc hlt (by omega)]
        refine small_loops r hn m k2 (i + 1) (by omega) (by omega) (fun p hp => ?_)
        rcases Nat.lt_or_ge p i with h' | h'
        · exact h p h'
        · obtain rfl : p = i := by omega
          exact h20
      | succ m2 ih =>
        intro k2 q hq hk2 h20
        obtain ⟨k2, rfl⟩ : ∃ k', k2 = k' + 1 := ⟨k2 - 1, by omega⟩
        unfold samphireref19_Small.l1
        rw [if_pos (by omega), if_pos (by omega), rd46, if_pos (by omega), if_pos (by omega)]
        by_cases hs : ((rdOf ByteArray.empty (r.getD i z46).f3 (q : Int)).size : Int) > 100
        · rw [if_pos hs]
          exact ⟨false, rfl, fun h => by cases h⟩
        · rw [if_neg hs, inc (n := (r.getD i z46).f3.length) (by omega) (by omega)]
          exact ih k2 (q + 1) (by omega) (by omega) h20
    have hj : ∀ b : Bool, (b = false → (r.getD i z46).f3.length ≤ 20) → ∃ b', samphireref19_Small.j1 (k + 1) r (i : Int) b = some b' ∧ (b' = true → ∀ q, q < r.length → (r.getD q z46).f3.length ≤ 20) := by
      intro b hb
      unfold samphireref19_Small.j1
      cases b with
      | true => exact ⟨false, rfl, fun h => by cases h⟩
      | false =>
        rw [if_neg (by exact Bool.noConfusion)]
        exact inner (r.getD i z46).f3.length k 0 (by omega) (by have := hb rfl; omega) (hb rfl)
    unfold samphireref19_Small.l0
    rw [if_pos (by omega), if_pos (by omega), rd46]
    by_cases h1 : ((r.getD i z46).f1.size : Int) > 100
    · rw [if_pos h1]; exact hj true (fun h => by cases h)
    · rw [if_neg h1]
      by_cases h2 : ((r.getD i z46).f2.size : Int) > 100
      · rw [if_pos h2]; exact hj true (fun h => by cases h)
      · rw [if_neg h2]; exact hj _ (fun h => by have := of_decide_eq_false h; omega)
theorem small_eq (r : List S46) (k : Nat) (hk : 700 ≤ k) : ∃ b, samphireref19_Small.f k r = some b ∧ (b = true → SmallT r) := by
  unfold samphireref19_Small.f
  by_cases h : (r.length : Int) > 20
  · rw [if_pos h]; exact ⟨false, rfl, fun h => by cases h⟩
  · rw [if_neg h]
    obtain ⟨b, hb, hs⟩ := small_loops r (by omega) r.length k 0 (by omega) (by omega) (fun q hq => by omega)
    refine ⟨b, hb, fun h => ⟨by omega, fun t ht => ?_⟩⟩
    obtain ⟨q, hq, he⟩ := List.mem_iff_getElem.1 ht
    have := hs h q hq
    rw [List.getD_eq_getElem?_getD, List.getElem?_eq_getElem hq] at this
    rw [← he]; exact this
theorem fits_of {l : List S42} (h : SmallT (l.map conv)) : Fits l := fun t ht => h.2 (conv t) (List.mem_map_of_mem ht)
theorem len_of {l : List S42} (h : SmallT (l.map conv)) : l.length ≤ 20 := by have := h.1; rwa [List.length_map] at this

/-! ### What may be -/
theorem may_l0 (x0 : Int) (x1 x2 : ByteArray) (l : List ByteArray) (hn : l.length ≤ 1000) : ∀ m k i, l.length = i + m → m < k → samphireref19_May.l0 k (i : Int) x0 x1 x2 l = some (yes (∀ j, i ≤ j → j < l.length → At l j))
  | 0, k, i, hi, hk => by
    obtain ⟨k, rfl⟩ : ∃ k', k = k' + 1 := ⟨k - 1, by omega⟩
    unfold samphireref19_May.l0
    rw [if_neg (by omega), yes_true (fun j h1 h2 => by omega)]
  | m + 1, k, i, hi, hk => by
    obtain ⟨k, rfl⟩ : ∃ k', k = k' + 1 := ⟨k - 1, by omega⟩
    have ih := may_l0 x0 x1 x2 l hn m k (i + 1) (by omega) (by omega)
    have hlt : i < l.length := by omega
    rw [upto (P := At l) hlt]
    unfold samphireref19_May.l0
    rw [if_pos (by omega), if_pos (by omega), rd_nat, inc hlt hn]
    by_cases h0 : (l.getD i E).size ≤ 64
    · rw [if_neg (by omega)]
      by_cases hp : 0 < i
      · have hw : wrap64 ((i : Int) - 1) = ((i - 1 : Nat) : Int) := by rw [w64 (by omega) (by omega)]; omega
        rw [if_pos (by omega), hw, if_pos (by omega), if_pos (by omega), rd_nat]
        by_cases hl : Lt (l.getD (i - 1) E) (l.getD i E)
        · rw [if_pos ((less_iff _ _).2 hl), ih]
          congr 1
          exact yes_congr ⟨fun h => ⟨⟨h0, fun _ => hl⟩, h⟩, fun h => h.2⟩
        · rw [if_neg (fun h => hl ((less_iff _ _).1 h))]
          congr 1
          exact (yes_false (fun h => hl (h.1.2 hp))).symm
      · rw [if_neg (by omega), ih]
        congr 1
        exact yes_congr ⟨fun h => ⟨⟨h0, fun h => absurd h hp⟩, h⟩, fun h => h.2⟩
    · rw [if_pos (by omega)]
      congr 1
      exact (yes_false (fun h => h0 h.1.1)).symm
def May (t : S42) : Prop := 1 ≤ t.f0 ∧ t.f0 ≤ 4 ∧ t.f1.size ≤ 64 ∧ t.f2.size ≤ 64 ∧ t.f3.length ≤ 16 ∧ (2 < t.f0 → t.f1 = E) ∧ (t.f0 ≠ 2 → t.f2 = E) ∧ (t.f0 < 3 → t.f3 = []) ∧ ∀ j, j < t.f3.length → At t.f3 j
theorem size_E : E.size = 0 := rfl
theorem may_sound (t : S42) : May t ↔ Sound t := by
  unfold May Sound Rises
  constructor
  · rintro ⟨h1, h2, h3, h4, h5, h6, h7, h8, h9⟩
    have h : t.f0 = 1 ∨ t.f0 = 2 ∨ t.f0 = 3 ∨ t.f0 = 4 := by omega
    rcases h with h | h | h | h
    · exact .inl ⟨h, h3, h7 (by omega), h8 (by omega)⟩
    · exact .inr (.inl ⟨h, h3, h4, h8 (by omega)⟩)
    · exact .inr (.inr ⟨.inl h, h6 (by omega), h7 (by omega), h5, h9⟩)
    · exact .inr (.inr ⟨.inr h, h6 (by omega), h7 (by omega), h5, h9⟩)
  · rintro (⟨h, h1, h2, h3⟩ | ⟨h, h1, h2, h3⟩ | ⟨h, h1, h2, h3, h4⟩)
    · have hl : t.f3.length = 0 := by rw [h3]; rfl
      have hs : t.f2.size = 0 := by rw [h2]; rfl
      exact ⟨by omega, by omega, h1, by omega, by omega, fun h' => by omega, fun _ => h2, fun _ => h3, fun j hj => by omega⟩
    · have hl : t.f3.length = 0 := by rw [h3]; rfl
      exact ⟨by omega, by omega, h1, h2, by omega, fun h' => by omega, fun h' => absurd h h', fun _ => h3, fun j hj => by omega⟩
    · have hs : t.f2.size = 0 := by rw [h2]; rfl
      have hs1 : t.f1.size = 0 := by rw [h1]; rfl
      exact ⟨by omega, by omega, by omega, by omega, h3, fun _ => h1, fun _ => h2, fun h' => by omega, h4⟩
theorem may_j1 (b : Bool) (a : Int) (x y : ByteArray) (l : List ByteArray) (hn : l.length ≤ 1000) (k : Nat) (hk : l.length + 1 < k) : samphireref19_May.j1 k b a x y l = some (!b && yes (∀ j, j < l.length → At l j)) := by
  obtain ⟨k, rfl⟩ : ∃ k', k = k' + 1 := ⟨k - 1, by omega⟩
  rw [samphireref19_May.j1]
  cases b with
  | true => rfl
  | false =>
    rw [if_neg (by exact Bool.noConfusion), show (0 : Int) = ((0 : Nat) : Int) from rfl, may_l0 a x y l hn l.length k 0 (by omega) (by omega), Bool.not_false, Bool.true_and]
    congr 1
    exact yes_congr ⟨fun h j hj => h j (Nat.zero_le _) hj, fun h j _ hj => h j hj⟩
theorem may_j0 (b : Bool) (a : Int) (x y : ByteArray) (l : List ByteArray) (hn : l.length ≤ 1000) (k : Nat) (hk : l.length + 2 < k) :
    samphireref19_May.j0 k b a x y l = some (!b && yes ((2 < a → x = E) ∧ (a ≠ 2 → y = E) ∧ (a < 3 → l = []) ∧ ∀ j, j < l.length → At l j)) := by
  obtain ⟨k, rfl⟩ : ∃ k', k = k' + 1 := ⟨k - 1, by omega⟩
  rw [samphireref19_May.j0]
  cases b with
  | true => rfl
  | false =>
    rw [if_neg (by exact Bool.noConfusion), Bool.not_false, Bool.true_and]
    simp only [may_j1 _ a x y l hn k (by omega), nil_iff]
    have hlen : decide ((l.length : Int) > 0) = yes (l ≠ []) := by
      rw [yes_dec]
      refine yes_congr ⟨fun h h' => ?_, fun h => ?_⟩
      · rw [h'] at h; simp at h
      · have := List.length_pos_iff.2 h; omega
    rw [hlen]
    by_cases h1 : 2 < a
    · by_cases h2 : x = E
      · by_cases h3 : y = E
        · rw [if_pos h1, if_pos h2, if_neg (by omega), if_pos h3, if_neg (by omega), Bool.not_false, Bool.true_and]
          congr 1
          exact yes_congr ⟨fun h => ⟨fun _ => h2, fun _ => h3, fun h' => by omega, h⟩, fun h => h.2.2.2⟩
        · rw [if_pos h1, if_pos h2, if_neg (by omega), if_neg h3, Bool.not_true, Bool.false_and, yes_false (fun h => h3 (h.2.1 (by omega)))]
      · rw [if_pos h1, if_neg h2, Bool.not_true, Bool.false_and, yes_false (fun h => h2 (h.1 h1))]
    · rw [if_neg h1]
      have fin : ∀ hy : (a ≠ 2 → y = E), some (!yes (l ≠ []) && yes (∀ j, j < l.length → At l j)) = some (yes ((2 < a → x = E) ∧ (a ≠ 2 → y = E) ∧ (a < 3 → l = []) ∧ ∀ j, j < l.length → At l j)) := by
        intro hy
        congr 1
        by_cases h4 : l = []
        · rw [yes_false (fun h => h h4), Bool.not_false, Bool.true_and]
          exact yes_congr ⟨fun h => ⟨fun h' => absurd h' h1, hy, fun _ => h4, h⟩, fun h => h.2.2.2⟩
        · rw [yes_true h4, Bool.not_true, Bool.false_and, yes_false (fun h => h4 (h.2.2.1 (by omega)))]
      by_cases h2 : a = 2
      · rw [if_pos h2, if_pos (by omega)]
        exact fin (fun h => absurd h2 h)
      · rw [if_neg h2]
        by_cases h3 : y = E
        · rw [if_pos h3, if_pos (by omega)]
          exact fin (fun _ => h3)
        · rw [if_neg h3, Bool.not_true, Bool.false_and, yes_false (fun h => h3 (h.2.1 h2))]
theorem may_eq (t : S42) (hn : t.f3.length ≤ 1000) (k : Nat) (hk : t.f3.length + 2 < k) : samphireref19_May.f k t.f0 t.f1 t.f2 t.f3 = some (yes (Sound t)) := by
  rw [← yes_congr (may_sound t)]
  unfold samphireref19_May.f May
  simp only [may_j0 _ t.f0 t.f1 t.f2 t.f3 hn k hk]
  by_cases h1 : t.f0 < 1
  · rw [if_pos h1, Bool.not_true, Bool.false_and, yes_false (fun h => by have h' := h.1; clear h; omega)]
  · rw [if_neg h1]
    by_cases h2 : t.f0 > 4
    · rw [if_pos h2, Bool.not_true, Bool.false_and, yes_false (fun h => by have h' := h.2.1; clear h; omega)]
    · rw [if_neg h2]
      by_cases h3 : (t.f1.size : Int) > 64
      · rw [if_pos h3, Bool.not_true, Bool.false_and, yes_false (fun h => by have h' := h.2.2.1; clear h; omega)]
      · rw [if_neg h3]
        by_cases h4 : (t.f2.size : Int) > 64
        · rw [if_pos h4, Bool.not_true, Bool.false_and, yes_false (fun h => by have h' := h.2.2.2.1; clear h; omega)]
        · rw [if_neg h4]
          congr 1
          by_cases h5 : (t.f3.length : Int) > 16
          · rw [decide_eq_true h5, Bool.not_true, Bool.false_and, yes_false (fun h => by have h' := h.2.2.2.2.1; clear h; omega)]
          · rw [decide_eq_false h5, Bool.not_false, Bool.true_and]
            exact yes_congr ⟨fun h => ⟨by omega, by omega, by omega, by omega, by omega, h⟩, fun h => h.2.2.2.2.2⟩
end Go.Proofs.Ytnpipaehcklnbaa.Cho
