/- The law IndexBack, in plain Lean: a key that was not there, put and deleted, leaves all others as they were. -/
import Derived.Test.YtojpmjkphgjmgaaHqIndexBack
import Derived.Test.YtojpmjkphgjmgaaIx4
import Derived.Test.YtojpmjkphgjmgaaIx6
import Derived.Test.YtojpmjkphgjmgaaIxAwake
set_option linter.unusedVariables false
namespace Go.Proofs.Ytojpmjkphgjmgaa.Pure
open Go.RowKit Go.Proofs.Ytojpmjkphgjmgaa.H Go.Proofs.YtojpmjkphgjmgaaW.PrintWords Go.Proofs.Ytojpmjkphgjmgaa.Ix

theorem back_awake (a b : Int) (l : List S60) (key : ByteArray) (v : Int) (k : Nat) (hk : 61 ≤ k) : samphirelaw12_IndexBack.j0 k key v true a b l = some true := by
  obtain ⟨k, rfl⟩ : ∃ k', k = k' + 1 := ⟨k - 1, by omega⟩
  rw [samphirelaw12_IndexBack.j0, if_pos rfl, awake_bind k (by omega)]
theorem back_main (a b : Int) (l : List S60) (key : ByteArray) (v : Int) (hs : key.size ≤ 100) (h : Rt a b l) (k : Nat) (hk : 30000 ≤ k) : samphirelaw12_IndexBack.j0 (k + 1) key v false a b l = some true := by
  have h1 := pw_le h.1
  obtain ⟨q, hq⟩ := rt_pos h key
  rw [samphirelaw12_IndexBack.j0, if_neg (by exact Bool.noConfusion), get_eq h hq hs k (by omega), Option.bind_some]
  by_cases hu : us l q
  · rw [if_pos hu, awake_bind k (by omega)]
  rw [if_neg hu]
  have hno : ¬ In l key := fun hin => hu ((pos_in (by omega) h.2.2.2 hq).1 hin)
  obtain ⟨m, e, p1, p2, p3⟩ := put_sum h key hs v
  rw [p1 k hk, Option.bind_some]
  rcases p3 with ⟨e0, rfl, _⟩ | ⟨rfl, hm', l', q', hin, rfl⟩
  · rw [if_neg e0, ref_eq a b m (by omega) k (by omega), Option.bind_some, Option.bind_some, same_eq a b a b m m (by omega) k (by omega), Option.bind_some, if_pos (yes_true ⟨rfl, rfl, rfl⟩), awake_bind k (by omega)]
  rw [if_pos rfl]
  have hr := rt_set hin.rt hin.pos hm' hin.room
  have hp' := hin.pos
  obtain ⟨d, e, d1, d2, d3⟩ := del_sum hr key hs
  rw [d1 k hk, Option.bind_some]
  have hkin : In (l'.set q' ⟨true, key, v⟩) key := ⟨q', by rw [List.length_set]; exact hp'.1, by show (G _ q').f0 = true; rw [G_set_self hp'.1], by show (G _ q').f1 = key; rw [G_set_self hp'.1]⟩
  rcases d3 with ⟨_, _, hno'⟩ | ⟨rfl, hd, hdl, _, _, _, hsame⟩
  · exact absurd hkin hno'
  rw [if_pos rfl]
  have hdl2 := pw_le hd.1
  by_cases hl : d.length > l.length
  · rw [if_pos (by simp only; omega), awake_bind k (by omega)]
  rw [if_neg (by simp only; omega)]
  rw [List.length_set] at hdl
  have el : l' = l := by
    rcases hin.how with e | ⟨hh, _⟩
    · exact e
    · have := hh.len
      omega
  subst el
  have eq : q' = q := pos_inj (hm_lt (by omega) _) hp' hq
  subst eq
  have ed : d = l' := by
    rw [hsame q' ?_ ?_, List.set_set]
    · apply G_ext (by rw [List.length_set])
      intro i hi
      rw [List.length_set] at hi
      by_cases e : q' = i
      · subst e
        rw [G_set_self hi]
        exact (sound_free (h.2.2.1 q' hi) hu).symm
      · rw [G_set_ne hp'.1 e]
    · rw [List.length_set]
      refine ⟨by rw [List.length_set]; exact hp'.1, fun p hp hd' => ?_, fun _ => by show (G _ q').f1 = key; rw [G_set_self hp'.1]⟩
      rw [List.length_set] at hp hd'
      have hne : q' ≠ p := fun e => by subst e; omega
      show (G (l'.set q' ⟨true, key, v⟩) p).f0 = true ∧ (G (l'.set q' ⟨true, key, v⟩) p).f1 ≠ key
      rw [G_set_ne hp'.1 hne]
      exact hp'.2.1 p hp hd'
    · intro j hj hne hju hd'
      rw [List.length_set] at hj hd'
      have eG : G (l'.set q' ⟨true, key, v⟩) j = G l' j := G_set_ne hp'.1 (fun e => hne e.symm)
      have hju' : us l' j := by show (G l' j).f0 = true; rw [← eG]; exact hju
      have ek : ky (l'.set q' ⟨true, key, v⟩) j = ky l' j := by show (G _ j).f1 = _; rw [eG]
      rw [ek] at hd'
      exact hu (((h.2.2.2 j hj hju').2.1 q' hp'.1 hd').1)
  subst ed
  rw [ref_eq a b d (by omega) k (by omega), Option.bind_some, Option.bind_some, same_eq a b a b d d (by omega) k (by omega), Option.bind_some, if_pos (yes_true ⟨rfl, rfl, rfl⟩), awake_bind k (by omega)]
theorem IndexBack : samphirelaw12_IndexBack.Pure := by
  intro x key v hx hk hv
  obtain ⟨⟨a, b⟩, l⟩ := x
  have hn : l.length < 4398046511104 := by have h := hx.2.1; simp only at h; omega
  refine ⟨l.length + 40001, ?_⟩
  simp only
  obtain ⟨K, hK⟩ : ∃ K, K = l.length + 40000 := ⟨_, rfl⟩
  rw [show l.length + 40001 = K + 1 by omega]
  unfold samphirelaw12_IndexBack.f
  rw [ref_eq a b l hn (K + 1) (by omega), Option.bind_some, small_eq a b l (K + 1) (by omega), Option.bind_some]
  by_cases hsm : Small l
  · rw [if_pos (yes_true hsm)]
    by_cases hs : key.size > 100
    · rw [if_pos (by omega), back_awake a b l key v (K + 1) (by omega)]
    · rw [if_neg (by omega), right_eq a b l (K + 1) (by omega), Option.bind_some]
      by_cases h : Rt a b l
      · rw [yes_true h]
        exact back_main a b l key v (by omega) h K (by omega)
      · rw [yes_false h]
        exact back_awake a b l key v (K + 1) (by omega)
  · rw [if_neg (by rw [yes_false hsm]; decide), back_awake a b l key v (K + 1) (by omega)]
end Go.Proofs.Ytojpmjkphgjmgaa.Pure
