/- The law ChooseRange, in plain Lean: a range up to a key is the one without an end, less what is from that key on. -/
import Derived.Test.YtnpipaehcklnbaaHqChooseRange
import Derived.Test.YtnpipaehcklnbaaCho4
namespace Go.Proofs.Ytnpipaehcklnbaa.Pure
open Go.RowKit Go.Proofs.Ytnpipaehcklnbaa.H Go.Proofs.YtnpipaehcklnbaaW.PrintWords Go.Proofs.Ytnpipaehcklnbaa.Cho

theorem means_range (a b key : ByteArray) (ha : a.size ≤ 64) (hb : b.size ≤ 64) : Means [(⟨2, a, b, []⟩ : S42)] key ↔ ¬ Lt key a ∧ (b = E ∨ Lt key b) := by
  unfold Means
  constructor
  · rintro ⟨_, h⟩
    rcases h _ List.mem_cons_self with h | h | h | h
    · exact absurd (show (2 : Int) = _ from h.1) (by decide)
    · exact h.2
    · exact absurd (show (2 : Int) = _ from h.1) (by decide)
    · exact absurd (show (2 : Int) = _ from h.1) (by decide)
  · intro h
    refine ⟨⟨by simp, fun t ht => ?_⟩, fun t ht => ?_⟩
    · rw [List.mem_singleton] at ht
      subst ht
      exact .inr (.inl ⟨rfl, ha, hb, rfl⟩)
    · rw [List.mem_singleton] at ht
      subst ht
      exact .inr (.inl ⟨rfl, h⟩)
theorem fits_one (t : S42) (h : t.f3.length ≤ 20) : Fits [t] := fun u hu => by
  rw [List.mem_singleton] at hu
  subst hu
  exact h
theorem range_meant (a b key : ByteArray) (ha : a.size ≤ 64) (hb : b.size ≤ 64) (k : Nat) (hk : 30 ≤ k) : choose_Meant.f k [(⟨2, a, b, []⟩ : S42)] key = some (yes (¬ Lt key a ∧ (b = E ∨ Lt key b))) := by
  rw [meant_eq _ (fits_one _ (by simp)) key k hk]
  congr 1
  exact yes_congr (means_range a b key ha hb)
theorem range_l0 (a b : ByteArray) (ha : a.size ≤ 64) (hb : b.size ≤ 64) (hne : b ≠ E) (hab : ¬ Lt b a) (keys : List ByteArray) (hk : keys.length ≤ 60) : ∀ m k i, keys.length = i + m → m + 100 < k →
    samphirelaw19_ChooseRange.l0 k a b keys (keys.length : Int) (i : Int) = some true
  | 0, k, i, hi, h => by
    obtain ⟨k, rfl⟩ : ∃ k', k = k' + 1 := ⟨k - 1, by omega⟩
    rw [samphirelaw19_ChooseRange.l0, if_neg (by omega), awake_bind k (by omega)]
  | m + 1, k, i, hi, h => by
    obtain ⟨k, rfl⟩ : ∃ k', k = k' + 1 := ⟨k - 1, by omega⟩
    have hlt : i < keys.length := by omega
    have ih := range_l0 a b ha hb hne hab keys hk m k (i + 1) (by omega) (by omega)
    rw [samphirelaw19_ChooseRange.l0, if_pos (by omega), if_pos (by omega), if_pos (by omega), rd_nat, inc hlt (by omega), ih]
    generalize keys.getD i E = key
    have h1 := range_meant a E key ha (by decide) k (by omega)
    have h2 := range_meant b E key hb (by decide) k (by omega)
    refine (congrArg (fun o => Option.bind o _) h1).trans ?_
    rw [Option.bind_some]
    refine (congrArg (fun o => Option.bind o _) h2).trans ?_
    rw [Option.bind_some, range_meant a b key ha hb k (by omega), Option.bind_some]
    by_cases c1 : Lt key a
    · have c2 : Lt key b := lt_le c1 hab
      rw [yes_false (fun h : ¬ Lt key a ∧ (E = E ∨ Lt key E) => h.1 c1), yes_false (fun h : ¬ Lt key b ∧ (E = E ∨ Lt key E) => h.1 c2), yes_false (fun h : ¬ Lt key a ∧ (b = E ∨ Lt key b) => h.1 c1)]
      rfl
    · rw [yes_true (show ¬ Lt key a ∧ (E = E ∨ Lt key E) from ⟨c1, .inl rfl⟩)]
      by_cases c2 : Lt key b
      · rw [yes_false (fun h : ¬ Lt key b ∧ (E = E ∨ Lt key E) => h.1 c2), yes_true (show ¬ Lt key a ∧ (b = E ∨ Lt key b) from ⟨c1, .inr c2⟩)]
        rfl
      · rw [yes_true (show ¬ Lt key b ∧ (E = E ∨ Lt key E) from ⟨c2, .inl rfl⟩), yes_false (fun h : ¬ Lt key a ∧ (b = E ∨ Lt key b) => h.2.elim hne c2)]
        rfl
theorem range_awake (a b : ByteArray) (keys : List ByteArray) (k : Nat) (hkk : 61 ≤ k) : samphirelaw19_ChooseRange.j0 k a b keys true = some true := by
  obtain ⟨k, rfl⟩ : ∃ k', k = k' + 1 := ⟨k - 1, by omega⟩
  rw [samphirelaw19_ChooseRange.j0, if_pos rfl, awake_bind k (by omega)]
theorem ChooseRange : H.samphirelaw19_ChooseRange.Pure := by
  intro a b keys _ _ _
  refine ⟨300, ?_⟩
  rw [H.samphirelaw19_ChooseRange.f]
  by_cases h1 : (a.size : Int) > 64
  · rw [if_pos h1, range_awake _ _ _ 300 (by omega)]
  rw [if_neg h1]
  by_cases h2 : (b.size : Int) > 64
  · rw [if_pos h2, range_awake _ _ _ 300 (by omega)]
  rw [if_neg h2]
  by_cases h3 : b = E
  · rw [if_pos ((nil_iff _).2 h3), range_awake _ _ _ 300 (by omega)]
  rw [if_neg (fun h => h3 ((nil_iff _).1 h))]
  by_cases h4 : Lt b a
  · rw [if_pos ((less_iff _ _).2 h4), range_awake _ _ _ 300 (by omega)]
  rw [if_neg (fun h => h4 ((less_iff _ _).1 h)), smallk_eq keys 300 (by omega), Option.bind_some]
  by_cases hk : SmallK keys
  · rw [yes_true hk, Bool.not_true, samphirelaw19_ChooseRange.j0, if_neg (by exact Bool.noConfusion)]
    exact range_l0 a b (by omega) (by omega) h3 h4 keys hk.1 keys.length 299 0 (by omega) (by have := hk.1; omega)
  · rw [yes_false hk, Bool.not_false, range_awake _ _ _ 300 (by omega)]
end Go.Proofs.Ytnpipaehcklnbaa.Pure
