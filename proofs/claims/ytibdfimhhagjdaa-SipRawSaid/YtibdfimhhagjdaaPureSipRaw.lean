/- The law SipRaw, in plain Lean: of a state that may not be, what is written leaves it, and there is no hash; of one that may, parts are the whole. -/
import Derived.Test.YtibdfimhhagjdaaHqSipRaw
import Derived.Test.YtibdfimhhagjdaaSipMore
import Derived.Test.YtibdfimhhagjdaaHx4
namespace Go.Proofs.Ytibdfimhhagjdaa.Pure
open Go.RowKit Go.Proofs.Ytibdfimhhagjdaa.H Go.Proofs.YtibdfimhhagjdaaW.PrintWords Go.Proofs.Ytibdfimhhagjdaa.Sip

theorem awakeR (k : Nat) (hk : 20 ≤ k) : samphirelaw05_awake.f k = some true := by
  obtain ⟨h1, h2⟩ := awake_eq k hk
  unfold samphirelaw05_awake.f
  rw [h1, Option.bind_some, if_pos rfl, h2, Option.bind_some]
  rfl
theorem raw_j0 (s : ByteArray) (a b c d N : Int) (t : ByteArray) : samphirelaw05_SipRaw.j0 3002 s true a b c d t N = some true := by
  rw [samphirelaw05_SipRaw.j0, if_pos rfl, awakeR 3001 (by omega)]
  rfl
/-- Of a state that may be. -/
theorem raw_good (v : W4) (t s : List UInt8) (N : Int) (h0 : 0 ≤ N) (h1 : N ≤ 1099511627776) (ht : (t.length : Int) = N % 8) (hs : s.length ≤ 100) (q : Bool) (hq : q = false) :
    samphirelaw05_SipRaw.j1 3001 (mkB s) q v.1 v.2.1 v.2.2.1 v.2.2.2 (mkB t) N (wt v t s).1.1 (wt v t s).1.2.1 (wt v t s).1.2.2.1 (wt v t s).1.2.2.2 (mkB (wt v t s).2) (N + s.length) = some true := by
  have hm : N % 8 < 8 := by omega
  have hw := write_wt v t [] N h0 ht (by simp only [List.length_nil]; omega) (by simp only [List.length_nil]; omega) 3000 (by simp only [List.length_nil]; omega)
  rw [wt_nil _ _ (by omega)] at hw
  have e2 : wrap64 ((s.length : Int) / 2) = ((s.length / 2 : Nat) : Int) := by rw [wrap64_id (by omega) (by omega)]; omega
  have e3 : ((s.length / 2 : Nat) : Int).toNat = s.length / 2 := by omega
  have hla : (s.take (s.length / 2)).length = s.length / 2 := by rw [List.length_take]; omega
  have hlb : (s.drop (s.length / 2)).length = s.length - s.length / 2 := by rw [List.length_drop]
  rw [samphirelaw05_SipRaw.j1, hq, if_neg (by decide), show (⟨#[]⟩ : ByteArray) = mkB [] from rfl, hw, Option.bind_some]
  simp only [List.length_nil, Int.natCast_zero, Int.add_zero, BEq.rfl, Bool.and_self, if_true]
  rw [if_pos (by rw [mkB_size, wrap64_id (by omega) (by omega)]), if_pos (by rw [mkB_size, wt_left, Int.tmod_eq_emod_of_nonneg (by omega)]; omega), done_wt v t s (N + s.length) (by omega) (by omega) 3000 (by omega), Option.bind_some]
  simp only [mkB_size, e2, e3]
  rw [if_pos (by omega), if_pos (by omega), mkB_extract, mkB_extract, List.drop_zero, Nat.sub_zero, List.take_of_length_le (l := s.drop (s.length / 2)) (by rw [hlb]; omega),
    write_wt v t (s.take (s.length / 2)) N h0 ht (by omega) (by omega) 3000 (by omega), Option.bind_some]
  simp only
  rw [write_wt (wt v t (s.take (s.length / 2))).1 (wt v t (s.take (s.length / 2))).2 (s.drop (s.length / 2)) (N + (s.take (s.length / 2)).length) (by omega) (by rw [wt_left]; omega) (by omega) (by rw [wt_left]; omega) 3000 (by rw [wt_left]; omega), Option.bind_some, wt_wt, List.take_append_drop]
  simp only
  rw [show N + ((s.take (s.length / 2)).length : Int) + ((s.drop (s.length / 2)).length : Int) = N + (s.length : Int) from by rw [hla, hlb]; omega, done_wt v t s (N + s.length) (by omega) (by omega) 3000 (by omega), Option.bind_some, if_pos rfl, awakeR 3000 (by omega)]
  rfl
theorem SipRaw : H.samphirelaw05_SipRaw.Pure := by
  intro x s hx hs
  refine ⟨3002, ?_⟩
  obtain ⟨⟨a, b, c, d⟩, t, N⟩ := x
  unfold H.samphirelaw05_SipRaw.f
  simp only
  by_cases h1 : (t.size : Int) > 100
  · rw [if_pos h1]
    exact raw_j0 ..
  rw [if_neg h1]
  by_cases h2 : (s.size : Int) > 100
  · rw [if_pos h2]
    exact raw_j0 ..
  rw [if_neg h2]
  by_cases h3 : N > 1099511627776
  · rw [decide_eq_true h3]
    exact raw_j0 ..
  rw [decide_eq_false h3, samphirelaw05_SipRaw.j0, if_neg (by decide)]
  by_cases hr : N ≥ 0 ∧ (t.size : Int) = Int.tmod N 8
  · have hr2 := hr.2
    rw [Int.tmod_eq_emod_of_nonneg hr.1] at hr2
    have hg := raw_good (a, b, c, d) t.data.toList s.data.toList N hr.1 (by omega) (by rw [size_list]; exact hr2) (by rw [size_list]; omega)
    have hw := write_wt (a, b, c, d) t.data.toList s.data.toList N hr.1 (by rw [size_list]; exact hr2) (by rw [size_list]; omega) (by rw [size_list, size_list]; omega) 3001 (by rw [size_list, size_list]; omega)
    rw [← mkB_eq, ← mkB_eq] at hw
    rw [← mkB_eq, ← mkB_eq] at hg
    rw [hw, Option.bind_some, if_neg (by omega)]
    exact hg _ (by rw [bne_eq_false_iff_eq]; exact hr.2)
  · rw [write_bad a b c d t s N hr 3001, Option.bind_some]
    have hbad : ∀ q, q = true → samphirelaw05_SipRaw.j1 3001 s q a b c d t N a b c d t N = some true := by
      intro q hq
      rw [samphirelaw05_SipRaw.j1, if_pos hq]
      simp only [BEq.rfl, Bool.and_self, if_true]
      rw [done_bad a b c d t N hr 3000, Option.bind_some, if_pos rfl, awakeR 3000 (by omega)]
      rfl
    by_cases hN : N < 0
    · rw [if_pos hN]
      exact hbad true rfl
    · rw [if_neg hN]
      exact hbad _ (by rw [bne_iff_ne]; exact fun he => hr ⟨by omega, he⟩)
end Go.Proofs.Ytibdfimhhagjdaa.Pure
