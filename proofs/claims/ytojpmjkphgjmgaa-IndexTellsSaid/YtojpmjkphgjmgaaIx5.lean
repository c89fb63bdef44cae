/- Chapter 12 in plain Lean, part 5: what is right by the document is right by the program. -/
import Derived.Test.YtojpmjkphgjmgaaIx3
set_option linter.unusedVariables false
set_option linter.unusedSimpArgs false
namespace Go.Proofs.Ytojpmjkphgjmgaa.Ix
open Go.RowKit Go.Proofs.Ytojpmjkphgjmgaa.H Go.Proofs.YtojpmjkphgjmgaaW.PrintWords Go.Proofs.YtojpmjkphgjmgaaW.PrintMore

theorem power_eq (n : Nat) (k : Nat) (hk : 20 ≤ k) : samphireref12_power.f k (n : Int) = some (pw n) := by
  obtain ⟨k, rfl⟩ : ∃ k', k = k' + 11 := ⟨k - 11, by omega⟩
  have st : ∀ (k p : Nat), p ≤ 4096 → samphireref12_power.l0 (k + 1) (n : Int) (p : Int) = if n = p then some true else samphireref12_power.l0 k (n : Int) ((2 * p : Nat) : Int) := by
    intro k p hp
    rw [samphireref12_power.l0, if_pos (by omega), w64 (by omega) (by omega)]
    by_cases e : n = p
    · rw [if_pos (by omega), if_pos e]
    · rw [if_neg (by omega), if_neg e]; rfl
  have en : samphireref12_power.l0 (k + 1) (n : Int) ((2 * 4096 : Nat) : Int) = some false := by
    rw [samphireref12_power.l0, if_neg (by decide)]
  unfold samphireref12_power.f
  rw [show (8 : Int) = ((8 : Nat) : Int) from rfl, st (k + 10) 8 (by decide), st (k + 9) (2 * 8) (by decide), st (k + 8) (2 * (2 * 8)) (by decide), st (k + 7) (2 * (2 * (2 * 8))) (by decide), st (k + 6) (2 * (2 * (2 * (2 * 8)))) (by decide), st (k + 5) (2 * (2 * (2 * (2 * (2 * 8))))) (by decide), st (k + 4) (2 * (2 * (2 * (2 * (2 * (2 * 8)))))) (by decide), st (k + 3) (2 * (2 * (2 * (2 * (2 * (2 * (2 * 8))))))) (by decide), st (k + 2) (2 * (2 * (2 * (2 * (2 * (2 * (2 * (2 * 8)))))))) (by decide), st (k + 1) (2 * (2 * (2 * (2 * (2 * (2 * (2 * (2 * (2 * 8))))))))) (by decide)]
  rw [show 2 * (2 * (2 * (2 * (2 * (2 * (2 * (2 * (2 * (2 * 8))))))))) = 2 * 4096 from rfl, en]
  unfold pw
  repeat' split
  all_goals first | (subst_vars; rfl) | skip
  congr 1
  symm
  rw [← Bool.not_eq_true]
  simp
  omega
/-- What the document asks of the slot j. -/
def RS (a b : Int) (l : List S60) (j : Nat) : Prop :=
  (us l j → (ky l j).size ≤ 64 ∧ 0 ≤ (G l j).f2 ∧ (G l j).f2 ≤ 2147483647 ∧ Pos (hm a b l.length (ky l j)) l (ky l j) j ∧ ∀ k, k < j → ¬ (us l k ∧ ky l k = ky l j)) ∧ (¬ us l j → (G l j).f1.toList = [] ∧ (G l j).f2 = 0)
section
variable (a b : Int) (l : List S60) (h0 : 0 < l.length) (hn : l.length ≤ 70) (s0 : Bool) (key : ByteArray) (s2 : Int) (i : Nat) (hi : i < l.length) (r : Bool) (K : Nat)
include hn hi
theorem rr_l2 (hr : ∀ k, K ≤ k → samphireref12_Right.l0 k (l.length : Int) ((i + 1 : Nat) : Int) a b (l.map cv) = some r) : ∀ d m k, m + d = i → d + K < k →
    samphireref12_Right.l2 k (l.length : Int) (i : Int) (m : Int) a b (l.map cv) s0 key s2 = some (yes (∀ k', m ≤ k' → k' < i → ¬ (us l k' ∧ ky l k' = key)) && r)
  | 0, m, k, hm', hk => by
    obtain ⟨k, rfl⟩ : ∃ k', k = k' + 1 := ⟨k - 1, by omega⟩
    unfold samphireref12_Right.l2
    rw [if_neg (by omega), inc (n := l.length) hi (by omega), hr k (by omega), yes_true (fun k' h1 h2 => by omega), Bool.true_and]
  | d + 1, m, k, hm', hk => by
    obtain ⟨k, rfl⟩ : ∃ k', k = k' + 1 := ⟨k - 1, by omega⟩
    have ih := rr_l2 hr d (m + 1) k (by omega) (by omega)
    unfold samphireref12_Right.l2
    rw [if_pos (by omega), if_pos (by omega), if_pos (by rw [List.length_map]; omega), cv_rd, cv_f0, cv_f1, inc (n := l.length) (by omega) (by omega), upto (P := fun k' => ¬ (us l k' ∧ ky l k' = key)) (show m < i by omega)]
    by_cases hu : us l m
    · rw [if_pos hu]
      by_cases e : ky l m = key
      · rw [if_pos ((list_iff _ _).2 e), yes_false (fun h => h.1 ⟨hu, e⟩), Bool.false_and]
      · rw [if_neg (fun h => e ((list_iff _ _).1 h)), ih]
        congr 2
        exact yes_congr ⟨fun h => ⟨fun h' => e h'.2, h⟩, fun h => h.2⟩
    · rw [if_neg hu, ih]
      congr 2
      exact yes_congr ⟨fun h => ⟨fun h' => hu h'.1, h⟩, fun h => h.2⟩
theorem rr_l1 (H : Nat) (hH : H < l.length) (hr : ∀ k, K ≤ k → samphireref12_Right.l2 k (l.length : Int) (i : Int) ((0 : Nat) : Int) a b (l.map cv) s0 key s2 = some r) : ∀ d p k, p < l.length → ds l.length H p + d = ds l.length H i → d + K < k →
    samphireref12_Right.l1 k (l.length : Int) (i : Int) (p : Int) a b (l.map cv) s0 key s2 = some (yes (∀ p', p' < l.length → ds l.length H p ≤ ds l.length H p' → ds l.length H p' < ds l.length H i → us l p' ∧ ky l p' ≠ key) && r)
  | 0, p, k, hp, hd, hk => by
    obtain ⟨k, rfl⟩ : ∃ k', k = k' + 1 := ⟨k - 1, by omega⟩
    have e : p = i := ds_inj hH hp hi (by omega)
    subst e
    unfold samphireref12_Right.l1
    rw [if_pos rfl, yes_true (fun p' h1 h2 h3 => by omega), Bool.true_and]
    exact hr k (by omega)
  | d + 1, p, k, hp, hd, hk => by
    obtain ⟨k, rfl⟩ : ∃ k', k = k' + 1 := ⟨k - 1, by omega⟩
    have hlt := ds_lt hH hi
    have hnx := ds_nx hH hp (by omega)
    have ih := rr_l1 H hH hr d (nx l.length p) k (nx_lt hp) (by omega) (by omega)
    have hne : ¬ (p : Int) = (i : Int) := by
      intro e
      have : p = i := by omega
      subst this
      omega
    unfold samphireref12_Right.l1
    rw [if_neg hne, if_pos (by omega), if_pos (by rw [List.length_map]; omega), cv_rd, cv_f0, cv_f1]
    by_cases hu : us l p
    · rw [if_pos hu]
      by_cases e : ky l p = key
      · rw [if_pos ((list_iff _ _).2 e), yes_false (fun h => (h p hp (Nat.le_refl _) (by omega)).2 e), Bool.false_and]
      · rw [if_neg (fun h => e ((list_iff _ _).1 h)), if_neg (by omega), nx_int hp (by omega), ih]
        congr 2
        refine yes_congr ⟨fun h p' h1 h2 h3 => ?_, fun h p' h1 h2 h3 => h p' h1 (by omega) h3⟩
        rcases Nat.lt_or_ge (ds l.length H p) (ds l.length H p') with h4 | h4
        · exact h p' h1 (by omega) h3
        · have := ds_inj hH h1 hp (by omega)
          subst this
          exact ⟨hu, e⟩
    · rw [if_neg hu, yes_false (fun h => hu (h p hp (Nat.le_refl _) (by omega)).1), Bool.false_and]
end
theorem rr_l0 (a b : Int) (l : List S60) (h0 : 0 < l.length) (hs : Small l) : ∀ m i k, l.length = i + m → m * 200 + 300 ≤ k →
    samphireref12_Right.l0 k (l.length : Int) (i : Int) a b (l.map cv) = some (yes (∀ j, i ≤ j → j < l.length → RS a b l j))
  | 0, i, k, hi, hk => by
    obtain ⟨k, rfl⟩ : ∃ k', k = k' + 1 := ⟨k - 1, by omega⟩
    unfold samphireref12_Right.l0
    rw [if_neg (by omega), yes_true (fun j h1 h2 => by omega)]
  | m + 1, i, k, hi, hk => by
    obtain ⟨k, rfl⟩ : ∃ k', k = k' + 1 := ⟨k - 1, by omega⟩
    have hn := hs.1
    have hil : i < l.length := by omega
    have ih : ∀ k, m * 200 + 300 ≤ k → samphireref12_Right.l0 k (l.length : Int) ((i + 1 : Nat) : Int) a b (l.map cv) = some (yes (∀ j, i + 1 ≤ j → j < l.length → RS a b l j)) := fun k hk => rr_l0 a b l h0 hs m (i + 1) k (by omega) hk
    have jt : ∀ k s0 s1 s2, 0 < k → samphireref12_Right.j2 k (l.length : Int) (i : Int) true a b (l.map cv) s0 s1 s2 = some false := fun k s0 s1 s2 hk => by
      obtain ⟨k, rfl⟩ : ∃ k', k = k' + 1 := ⟨k - 1, by omega⟩
      rw [samphireref12_Right.j2, if_pos rfl]
    unfold samphireref12_Right.l0
    rw [if_pos (by omega), if_pos (by omega), if_pos (by rw [List.length_map]; omega), cv_rd, cv_f0, cv_f1, cv_f2, upto (P := RS a b l) hil]
    by_cases hu : us l i
    · rw [if_pos hu]
      by_cases h1 : (G l i).f1.size ≤ 64
      · rw [if_neg (by omega)]
        by_cases h2 : 0 ≤ (G l i).f2
        · rw [if_neg (by omega)]
          by_cases h3 : (G l i).f2 ≤ 2147483647
          · rw [decide_eq_false (by omega)]
            obtain ⟨k, rfl⟩ : ∃ k', k = k' + 1 := ⟨k - 1, by omega⟩
            have hH := hm_lt (a := a) (b := b) h0 (ky l i)
            have hdl := ds_lt hH hil
            rw [samphireref12_Right.j2, if_neg (by exact Bool.noConfusion), rhome_eq a b (l.map cv) (by rw [List.length_map]; omega) (by rw [List.length_map]; omega) (G l i).f1 (by omega) k (by omega), Option.bind_some, List.length_map]
            have e2 := fun k hk => rr_l2 a b l hn (G l i).f0 (G l i).f1 (G l i).f2 i hil (yes (∀ j, i + 1 ≤ j → j < l.length → RS a b l j)) (m * 200 + 300) ih i 0 k (by omega) hk
            have e1 := rr_l1 a b l hn (G l i).f0 (G l i).f1 (G l i).f2 i hil _ (m * 200 + 380) (hm a b l.length (G l i).f1) hH (fun k hk => e2 k (by omega)) (ds l.length (hm a b l.length (G l i).f1) i) (hm a b l.length (G l i).f1) k hH (by rw [ds_self]; omega) (by show ds l.length (hm a b l.length (ky l i)) i + _ < k; omega)
            rw [e1]
            congr 1
            rw [Bool.eq_iff_iff]
            simp only [Bool.and_eq_true, yes_iff]
            constructor
            · rintro ⟨h4, h5, h6⟩
              exact ⟨⟨fun _ => ⟨h1, h2, h3, ⟨hil, fun p hp hd => h4 p hp (by rw [ds_self]; omega) hd, fun _ => rfl⟩, fun k' hk' => h5 k' (Nat.zero_le _) hk'⟩, fun h => absurd hu h⟩, h6⟩
            · rintro ⟨h4, h6⟩
              obtain ⟨_, _, _, h7, h8⟩ := h4.1 hu
              exact ⟨fun p' hp' _ hd => h7.2.1 p' hp' hd, fun k' _ hk' => h8 k' hk', h6⟩
          · rw [decide_eq_true (by omega), jt _ _ _ _ (by omega), yes_false (fun h => h3 (h.1.1 hu).2.2.1)]
        · rw [if_pos (by omega), jt _ _ _ _ (by omega), yes_false (fun h => h2 (h.1.1 hu).2.1)]
      · rw [if_pos (by omega), jt _ _ _ _ (by omega), yes_false (fun h => h1 (h.1.1 hu).1)]
    · rw [if_neg hu]
      by_cases h1 : (G l i).f1.toList = []
      · rw [if_pos h1]
        by_cases h2 : (G l i).f2 = 0
        · rw [if_pos h2, inc (n := l.length) hil (by omega), ih k (by omega)]
          congr 1
          exact yes_congr ⟨fun h => ⟨⟨fun h' => absurd h' hu, fun _ => ⟨h1, h2⟩⟩, h⟩, fun h => h.2⟩
        · rw [if_neg h2, yes_false (fun h => h2 (h.1.2 hu).2)]
      · rw [if_neg h1, yes_false (fun h => h1 (h.1.2 hu).1)]
theorem rright_eq (a b : Int) (l : List S60) (hs : Small l) (k : Nat) (hk : 20000 ≤ k) : samphireref12_Right.f k a b (l.map cv) = some (yes (Rt a b l)) := by
  obtain ⟨k, rfl⟩ : ∃ k', k = k' + 1 := ⟨k - 1, by omega⟩
  have hn := hs.1
  unfold samphireref12_Right.f
  rw [List.length_map, power_eq l.length (k + 1) (by omega), Option.bind_some]
  have jt : samphireref12_Right.j0 (k + 1) (l.length : Int) true a b (l.map cv) = some false := by rw [samphireref12_Right.j0, if_pos rfl]
  by_cases hp : pw l.length = true
  · have h8 := pw_le hp
    have he := pw_even hp
    rw [if_pos hp, rmany_eq a b l (by omega) (k + 1) (by omega), Option.bind_some, w64 (by omega) (by omega)]
    by_cases hc : 2 * cnt l ≤ l.length
    · rw [decide_eq_false (by omega), samphireref12_Right.j0, if_neg (by exact Bool.noConfusion)]
      have := rr_l0 a b l (by omega) hs l.length 0 k (by omega) (by omega)
      rw [show (0 : Int) = ((0 : Nat) : Int) from rfl, this]
      congr 1
      refine yes_congr ⟨fun h => ⟨hp, hc, fun j hj => ⟨fun hu => ?_, fun hu => ?_⟩, fun j hj hu => ((h j (Nat.zero_le _) hj).1 hu).2.2.2.1⟩, fun h j _ hj => ⟨fun hu => ?_, fun hu => ?_⟩⟩
      · have := (h j (Nat.zero_le _) hj).1 hu
        exact ⟨this.1, this.2.1, this.2.2.1⟩
      · exact (h j (Nat.zero_le _) hj).2 (by show ¬ (G l j).f0 = true; rw [hu]; decide)
      · have := (h.2.2.1 j hj).1 hu
        exact ⟨this.1, this.2.1, this.2.2, h.2.2.2 j hj hu, fun k' hk' h' => by have := good_inj (by omega) h.2.2.2 (show k' < l.length by omega) hj h'.1 hu h'.2; omega⟩
      · exact (h.2.2.1 j hj).2 (us_not hu)
    · rw [decide_eq_true (by omega), jt, yes_false (fun h => hc h.2.1)]
  · rw [if_neg hp, jt, yes_false (fun h => hp h.1)]
end Go.Proofs.Ytojpmjkphgjmgaa.Ix
