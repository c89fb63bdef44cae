/- The law BottomTwice, in plain Lean: so many, and so many more, of a key are both at once. -/
import Derived.Test.YtmfffbafldbihaaHx25
import Derived.Test.YtmfffbafldbihaaHqBottomTwice
import Derived.Test.YtmfffbafldbihaaBo3
set_option linter.unusedVariables false
namespace Go.Proofs.Ytmfffbafldbihaa.Pure
open Go.RowKit Go.Proofs.Ytmfffbafldbihaa.H Go.Proofs.YtmfffbafldbihaaW.PrintWords Go.Proofs.Ytmfffbafldbihaa.Bo

theorem twice_awake (a b K : Int) (l : List S62) (key : ByteArray) (n m : Int) (k : Nat) (hk : 61 ≤ k) : samphirelaw14_BottomTwice.j0 k key n m true a b K l = some true := by
  obtain ⟨k, rfl⟩ : ∃ k', k = k' + 1 := ⟨k - 1, by omega⟩
  rw [samphirelaw14_BottomTwice.j0, if_pos rfl, awake_bind k (by omega)]
theorem twice_main (a b : Int) (K : Nat) (l : List S62) (key : ByteArray) (n m : Int) (h : Rt a b K l) (hr : Rl l) (hs : key.size ≤ 64) (h0 : 0 < n) (h1 : n < 9223372036854775808) (h2 : 0 < m) (h3 : m < 9223372036854775808) (k : Nat) (hk : 20000 ≤ k) :
    samphirelaw14_BottomTwice.j0 (k + 1) key n m false a b K l = some true := by
  have hK := h.1.2
  have hl := h.2.1
  rw [samphirelaw14_BottomTwice.j0, if_neg (by exact Bool.noConfusion), Add_eq a b K l h hr key n hs h0 (by omega) k (by omega), Option.bind_some, Go.IntWalk.u64_in (n + m) ⟨by omega, by omega⟩, Add_eq a b K l h hr key (n + m) hs (by omega) (by omega) k (by omega)]
  rcases twice (a := a) (b := b) (key := key) (n := n) (m := m) (by omega) (by omega) (by omega) l hr (K + 1) (by omega) with ⟨m3, m1, m2, e3, e1, e2, et⟩ | ⟨e3, e1 | ⟨m1, e1, e2⟩⟩
  · obtain ⟨g1, g2⟩ := rt_ins h hr (en_ge hs h0) (en_rng (by omega) (by omega)) e1
    rw [e1, e3]
    simp only [res]
    rw [Add_eq a b K _ g1 g2 key m hs h2 (by omega) k (by omega), e2, Option.bind_some]
    simp only [res, Option.bind_some]
    rw [if_pos trivial, if_pos trivial, if_pos trivial, ref_eq a b K _ (by rw [List.length_take]; omega) k (by rw [List.length_take]; omega), Option.bind_some]
    simp only
    rw [same_eq a b K a b K _ _ (by rw [List.length_take]; omega) k (by omega), Option.bind_some, if_pos (yes_true ⟨⟨rfl, rfl⟩, rfl, by rw [et]⟩), awake_bind k (by omega)]
  · rw [e1, e3]
    simp only [res]
    rw [Add_eq a b K l h hr key m hs h2 (by omega) k (by omega), Option.bind_some, Option.bind_some]
    simp only
    rw [if_neg (by decide), if_pos trivial, awake_bind k (by omega)]
  · obtain ⟨g1, g2⟩ := rt_ins h hr (en_ge hs h0) (en_rng (by omega) (by omega)) e1
    rw [e1, e3]
    simp only [res]
    rw [Add_eq a b K _ g1 g2 key m hs h2 (by omega) k (by omega), e2, Option.bind_some]
    simp only [res, Option.bind_some]
    rw [if_neg (by decide), if_neg (by decide), if_pos trivial, awake_bind k (by omega)]
theorem BottomTwice : samphirelaw14_BottomTwice.Pure := by
  intro x key n m hx hk hn hm
  obtain ⟨⟨a, b⟩, K, l⟩ := x
  have hlen : l.length < 3518437208883 := by have h := hx.2.2.1; simp only at h; omega
  have hr : Rl l := fun y hy => by
    have h := (hx.2.2.2 y hy).2.2
    obtain ⟨⟨p1, p2⟩, p3, p4⟩ := h
    exact ⟨⟨p1, by omega⟩, p3, by omega⟩
  have hn0 := hn.1
  have hm0 := hm.1
  refine ⟨l.length + 20001, ?_⟩
  simp only
  obtain ⟨k, hk'⟩ : ∃ k, k = l.length + 20000 := ⟨_, rfl⟩
  rw [show l.length + 20001 = k + 1 by omega]
  unfold samphirelaw14_BottomTwice.f
  rw [ref_eq a b K l hlen (k + 1) (by omega), Option.bind_some]
  simp only
  rw [small_eq a b K l (k + 1) (by omega), Option.bind_some]
  have aw : ∀ c, c = true → samphirelaw14_BottomTwice.j0 (k + 1) key n m c a b K l = some true := fun c hc => by rw [hc]; exact twice_awake a b K l key n m (k + 1) (by omega)
  by_cases hsm : Small l
  · rw [if_pos (yes_true hsm), right_eq a b K l (k + 1) (by omega), Option.bind_some]
    by_cases h : Rt a b K l
    · rw [if_pos (yes_true h)]
      by_cases hs : (key.size : Int) > 64
      · rw [if_pos hs, aw true rfl]
      · rw [if_neg hs]
        by_cases h0 : n = 0
        · rw [if_pos h0, aw true rfl]
        · rw [if_neg h0]
          by_cases g0 : m = 0
          · rw [if_pos g0, aw true rfl]
          · rw [if_neg g0]
            by_cases h1 : n ≥ 9223372036854775808
            · rw [if_pos h1, aw true rfl]
            · rw [if_neg h1]
              by_cases g1 : m ≥ 9223372036854775808
              · exact aw _ (decide_eq_true g1)
              · obtain ⟨K, rfl⟩ := Int.eq_ofNat_of_zero_le (show 0 ≤ K by have := h.1.1; omega)
                rw [decide_eq_false g1]
                exact twice_main a b K l key n m h hr (by omega) (by omega) (by omega) (by omega) (by omega) k (by omega)
    · rw [if_neg (by rw [yes_false h]; decide), aw true rfl]
  · rw [if_neg (by rw [yes_false hsm]; decide), aw true rfl]
end Go.Proofs.Ytmfffbafldbihaa.Pure
