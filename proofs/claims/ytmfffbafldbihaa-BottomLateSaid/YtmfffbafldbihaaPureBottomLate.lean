/- The law BottomLate, in plain Lean: a key whose hash stands behind all of a sample that has one more changes nothing. -/
import Derived.Test.YtmfffbafldbihaaHx26
import Derived.Test.YtmfffbafldbihaaHqBottomLate
import Derived.Test.YtmfffbafldbihaaBo3
import Derived.Test.YtmfffbafldbihaaSipRef
set_option linter.unusedVariables false
namespace Go.Proofs.Ytmfffbafldbihaa.Pure
open Go.RowKit Go.Proofs.Ytmfffbafldbihaa.H Go.Proofs.YtmfffbafldbihaaW.PrintWords Go.Proofs.Ytmfffbafldbihaa.Bo

theorem late_awake (a b K : Int) (l : List S62) (key : ByteArray) (n : Int) (k : Nat) (hk : 61 ≤ k) : samphirelaw14_BottomLate.j0 k key n true a b K l = some true := by
  obtain ⟨k, rfl⟩ : ∃ k', k = k' + 1 := ⟨k - 1, by omega⟩
  rw [samphirelaw14_BottomLate.j0, if_pos rfl, awake_bind k (by omega)]
theorem late_main (a b : Int) (K : Nat) (l : List S62) (key : ByteArray) (n : Int) (h : Rt a b K l) (hr : Rl l) (hs : key.size ≤ 64) (h0 : 0 < n) (h1 : n ≤ 18446744073709551615) (hl : l.length = K + 1) (k : Nat) (hk : 20000 ≤ k) :
    samphirelaw14_BottomLate.j0 (k + 1) key n false a b K l = some true := by
  have hK := h.1.2
  have ha : samphireref14_Ahead.f (G l K).f0 (G l K).f1 (G l K).f2.f0 (G l K).f2.f1 key (H a b key) 0 0 = some (decide (cp (G l K) (en a b key n) < 0)) := Ahead_eq (G l K) (en a b key n) _ _ _ _
  rw [samphirelaw14_BottomLate.j0, if_neg (by exact Bool.noConfusion), Sip.ref_sum_eq a b key (by omega) k (by omega), Option.bind_some, Add_eq a b K l h hr key n hs h0 h1 k (by omega), Option.bind_some, if_pos (by omega), if_pos (by omega), G_rd]
  rw [show samphireref14_Ahead.f (G l K).f0 (G l K).f1 (G l K).f2.f0 (G l K).f2.f1 key (Sip.sum a b key.data.toList) 0 0 = _ from ha, Option.bind_some]
  by_cases hc : cp (G l K) (en a b key n) < 0
  · rw [decide_eq_true hc, if_pos rfl, ins_all (all_late h.2.2.2 hl hc)]
    simp only [res]
    have e : (l ++ [en a b key n]).take (K + 1) = l := by rw [← hl, List.take_left]
    rw [if_pos trivial, e, ref_eq a b K l (by omega) k (by omega), Option.bind_some]
    simp only
    rw [same_eq a b K a b K l (l.map cv) (by omega) k (by omega), Option.bind_some, if_pos (yes_true ⟨⟨rfl, rfl⟩, rfl, rfl⟩), awake_bind k (by omega)]
  · rw [decide_eq_false hc, if_neg (by decide)]
    cases hi : ins (en a b key n) l with
    | none =>
      simp only [res]
      exact (if_neg (show ¬ (12 : Int) = 0 by decide)).trans (awake_bind k (by omega))
    | some m =>
      simp only [res]
      have hne := ins_ne (by rw [num_en]; exact h0) hr hl hc hi
      rw [if_pos trivial, ref_eq a b K l (by omega) k (by omega), Option.bind_some]
      simp only
      rw [same_eq a b K a b K _ (l.map cv) (by rw [List.length_take]; omega) k (by omega), Option.bind_some, if_neg (by rw [yes_false (fun hh => hne (map_cv_inj hh.2.2))]; decide), awake_bind k (by omega)]
theorem BottomLate : samphirelaw14_BottomLate.Pure := by
  intro x key n hx hk hn
  obtain ⟨⟨a, b⟩, K, l⟩ := x
  have hlen : l.length < 3518437208883 := by have h := hx.2.2.1; simp only at h; omega
  have hr : Rl l := fun y hy => by
    have h := (hx.2.2.2 y hy).2.2
    obtain ⟨⟨p1, p2⟩, p3, p4⟩ := h
    exact ⟨⟨p1, by omega⟩, p3, by omega⟩
  have hn0 := hn.1
  have hn1 := hn.2
  refine ⟨l.length + 20001, ?_⟩
  simp only
  obtain ⟨k, hk'⟩ : ∃ k, k = l.length + 20000 := ⟨_, rfl⟩
  rw [show l.length + 20001 = k + 1 by omega]
  unfold samphirelaw14_BottomLate.f
  rw [ref_eq a b K l hlen (k + 1) (by omega), Option.bind_some]
  simp only
  rw [small_eq a b K l (k + 1) (by omega), Option.bind_some]
  have aw : ∀ c, c = true → samphirelaw14_BottomLate.j0 (k + 1) key n c a b K l = some true := fun c hc => by rw [hc]; exact late_awake a b K l key n (k + 1) (by omega)
  by_cases hsm : Small l
  · rw [if_pos (yes_true hsm), right_eq a b K l (k + 1) (by omega), Option.bind_some]
    by_cases h : Rt a b K l
    · rw [if_pos (yes_true h)]
      by_cases hs : (key.size : Int) > 64
      · rw [if_pos hs, aw true rfl]
      · rw [if_neg hs]
        by_cases h0 : n = 0
        · rw [if_pos h0, aw true rfl]
        · rw [if_neg h0, w64 (by have := h.1.1; omega) (by have := h.1.2; omega)]
          obtain ⟨K, rfl⟩ := Int.eq_ofNat_of_zero_le (show 0 ≤ K by have := h.1.1; omega)
          by_cases hl : (l.length : Int) = (K : Int) + 1
          · rw [show ((l.length : Int) != (K : Int) + 1) = false by rw [bne_eq_false_iff_eq]; exact hl]
            exact late_main a b K l key n h hr (by omega) (by omega) (by omega) (by omega) k (by omega)
          · exact aw _ (by rw [bne_iff_ne]; exact hl)
    · rw [if_neg (by rw [yes_false h]; decide), aw true rfl]
  · rw [if_neg (by rw [yes_false hsm]; decide), aw true rfl]
end Go.Proofs.Ytmfffbafldbihaa.Pure
