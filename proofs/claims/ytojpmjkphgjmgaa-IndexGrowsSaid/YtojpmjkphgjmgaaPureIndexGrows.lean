/- The law IndexGrows, in plain Lean: behind so many keys there are as many slots as the least power of 2, from 8 on, of which they are at most half. -/
import Derived.Test.YtojpmjkphgjmgaaHqIndexGrows
import Derived.Test.YtojpmjkphgjmgaaIx4
import Derived.Test.YtojpmjkphgjmgaaIxAwake
set_option linter.unusedVariables false
namespace Go.Proofs.Ytojpmjkphgjmgaa.Pure
open Go.RowKit Go.Proofs.Ytojpmjkphgjmgaa.H Go.Proofs.YtojpmjkphgjmgaaW.PrintWords Go.Proofs.Ytojpmjkphgjmgaa.Ix

/-- As many slots as are needed, and no more. -/
def Fit (x : List S60) : Prop := x.length = 8 ∨ x.length < 4 * cnt x
theorem into_cnt {a b : Int} {l l' : List S60} {key : ByteArray} {q : Nat} {v : Int} (h : Rt a b l) (hin : Into a b l key l' q) (hf : Fit l) : Fit (l'.set q ⟨true, key, v⟩) ∧ cnt l ≤ cnt (l'.set q ⟨true, key, v⟩) ∧ cnt (l'.set q ⟨true, key, v⟩) ≤ cnt l + 1 := by
  have hc := cnt_set hin.pos.1 ⟨true, key, v⟩
  rw [if_pos rfl] at hc
  have hlen : (l'.set q ⟨true, key, v⟩).length = l'.length := List.length_set
  have hgood := hin.rt.2.2.2
  have h8 := pw_le hin.rt.1
  rcases hin.how with e | ⟨hh, hno, hlt, _⟩
  · subst e
    have : cnt l' ≤ cnt (l'.set q ⟨true, key, v⟩) ∧ cnt (l'.set q ⟨true, key, v⟩) ≤ cnt l' + 1 := by
      by_cases hu : us l' q
      · rw [if_pos hu] at hc; omega
      · rw [if_neg hu] at hc; omega
    refine ⟨?_, this⟩
    unfold Fit at *
    rw [hlen]
    omega
  · have hu : ¬ us l' q := fun hu => hno ((half_in hh key).1 ((pos_in (by omega) hgood hin.pos).2 hu))
    rw [if_neg hu] at hc
    have h1 := hh.len
    have h2 := hh.many
    rw [List.take_of_length_le (Nat.le_refl _)] at h2
    refine ⟨?_, by omega, by omega⟩
    unfold Fit
    rw [hlen]
    omega
theorem pw_lt {p n : Nat} (hp : pw p = true) (hn : pw n = true) (h : p < n) : 2 * p ≤ n := by
  unfold pw at *
  simp at hp hn
  omega
theorem grows_l1 (a b : Int) (x : List S60) (h : Rt a b x) (hf : Fit x) : ∀ d p k, pw p = true → p ≤ x.length → x.length ≤ p + d → d + 30000 ≤ k → samphirelaw12_IndexGrows.l1 k (p : Int) a b x = some true := by
  intro d
  induction d with
  | zero =>
    intro p k hp hle hd hk
    obtain ⟨k, rfl⟩ : ∃ k', k = k' + 1 := ⟨k - 1, by omega⟩
    obtain rfl : p = x.length := by omega
    have h1 := pw_le h.1
    have h2 := h.2.1
    rw [samphirelaw12_IndexGrows.l1, many_good h k (by omega), Option.bind_some, w64 (by omega) (by omega), if_neg (by omega), if_pos rfl, awake_bind k (by omega)]
  | succ d ih =>
    intro p k hp hle hd hk
    obtain ⟨k, rfl⟩ : ∃ k', k = k' + 1 := ⟨k - 1, by omega⟩
    have h1 := pw_le h.1
    have h2 := h.2.1
    have hp8 := pw_le hp
    rw [samphirelaw12_IndexGrows.l1, many_good h k (by omega), Option.bind_some, w64 (x := 2 * (cnt x : Int)) (by omega) (by omega)]
    by_cases hlt : p < x.length
    · have h3 := pw_lt hp h.1 hlt
      have h4 : p < 2 * cnt x := by
        unfold Fit at hf
        omega
      rw [if_pos (by omega), w64 (by omega) (by omega)]
      have hp2 : pw (2 * p) = true := pw_twice hp (by omega)
      exact ih (2 * p) k hp2 h3 (by omega) (by omega)
    · obtain rfl : p = x.length := by omega
      rw [if_neg (by omega), if_pos rfl, awake_bind k (by omega)]
theorem rd_nat (l : List ByteArray) (i : Nat) : rdOf ByteArray.empty l (i : Int) = l.getD i ByteArray.empty := rfl
theorem grows_l0 (a b : Int) (keys : List ByteArray) (hn : keys.length ≤ 100) : ∀ m i x k, keys.length = i + m → Rt a b x → Fit x → cnt x ≤ i → m + 40000 ≤ k → samphirelaw12_IndexGrows.l0 k keys (keys.length : Int) (i : Int) a b x = some true
  | 0, i, x, k, hi, h, hf, hc, hk => by
    obtain ⟨k, rfl⟩ : ∃ k', k = k' + 1 := ⟨k - 1, by omega⟩
    have h1 := pw_le h.1
    rw [samphirelaw12_IndexGrows.l0, if_neg (by omega)]
    exact grows_l1 a b x h hf 5000 8 k (by decide) h1.1 (by omega) (by omega)
  | m + 1, i, x, k, hi, h, hf, hc, hk => by
    obtain ⟨k, rfl⟩ : ∃ k', k = k' + 1 := ⟨k - 1, by omega⟩
    rw [samphirelaw12_IndexGrows.l0, if_pos (by omega), if_pos (by omega), if_pos (by omega), rd_nat]
    by_cases hs : (keys.getD i ByteArray.empty).size > 64
    · rw [if_pos (by omega), awake_bind k (by omega)]
    rw [if_neg (by omega)]
    obtain ⟨y, e, p1, _, p3⟩ := put_sum h (keys.getD i ByteArray.empty) (by omega) (i : Int)
    rw [p1 k (by omega), Option.bind_some]
    have hm' : May (keys.getD i ByteArray.empty) (i : Int) := ⟨by omega, by omega, by omega⟩
    rcases p3 with ⟨e0, rfl, hbad⟩ | ⟨rfl, _, l', q, hin, rfl⟩
    · rcases hbad with hbad | ⟨_, h3, h4⟩
      · exact absurd hm' hbad
      · omega
    rw [if_pos rfl, inc (n := keys.length) (by omega) (by omega)]
    have hf2 := into_cnt (v := (i : Int)) h hin hf
    exact grows_l0 a b keys hn m (i + 1) (l'.set q ⟨true, keys.getD i ByteArray.empty, (i : Int)⟩) k (by omega) (rt_set hin.rt hin.pos hm' hin.room) hf2.1 (by omega) (by omega)
theorem rt_new (a b : Int) : Rt a b (List.replicate 8 z60) := by
  refine ⟨by decide, by rw [cnt_zero]; omega, fun j hj => ?_, fun j hj hu => ?_⟩
  · rw [G_zero]
    exact ⟨fun h => (by cases h), fun _ => ⟨nil_list, rfl⟩⟩
  · unfold us at hu
    rw [G_zero] at hu
    cases hu
theorem IndexGrows : samphirelaw12_IndexGrows.Pure := by
  intro x keys hx hk
  obtain ⟨a, b⟩ := x
  refine ⟨50000, ?_⟩
  simp only
  unfold samphirelaw12_IndexGrows.f
  by_cases hn : keys.length > 100
  · rw [if_pos (by omega), awake_bind _ (by omega)]
  · rw [if_neg (by omega), index_New.f, if_pos (by decide), Option.bind_some]
    exact grows_l0 a b keys (by omega) keys.length 0 _ 50000 (by omega) (rt_new a b) (.inl List.length_replicate) (by rw [cnt_zero]; omega) (by omega)
end Go.Proofs.Ytojpmjkphgjmgaa.Pure
