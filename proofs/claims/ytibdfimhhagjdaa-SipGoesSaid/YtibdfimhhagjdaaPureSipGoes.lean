/- The law SipGoes, in plain Lean: what is written twice is the hash of the text twice, and nothing that is written changes none. -/
import Derived.Test.YtibdfimhhagjdaaHqSipGoes
import Derived.Test.YtibdfimhhagjdaaSipMore
import Derived.Test.YtibdfimhhagjdaaHx4
namespace Go.Proofs.Ytibdfimhhagjdaa.Pure
open Go.RowKit Go.Proofs.Ytibdfimhhagjdaa.H Go.Proofs.YtibdfimhhagjdaaW.PrintWords Go.Proofs.Ytibdfimhhagjdaa.Sip

theorem awakeG (k : Nat) (hk : 20 ≤ k) : samphirelaw05_awake.f k = some true := by
  obtain ⟨h1, h2⟩ := awake_eq k hk
  unfold samphirelaw05_awake.f
  rw [h1, Option.bind_some, if_pos rfl, h2, Option.bind_some]
  rfl

theorem SipGoes : H.samphirelaw05_SipGoes.Pure := by
  intro x s hx hs
  refine ⟨3000, ?_⟩
  unfold H.samphirelaw05_SipGoes.f
  by_cases h : (s.size : Int) > 200
  · rw [if_pos h, awakeG 3000 (by omega)]
    rfl
  · rw [if_neg h, mkB_eq s]
    have hl := size_list s
    generalize s.data.toList = l at hl
    have hl2 : l.length ≤ 200 := by omega
    have hm : l.length % 8 < 8 := by omega
    rw [new_eq, Option.bind_some, write_wt (init x.f0 x.f1) [] l 0 (by omega) rfl (by omega) (by simp only [List.length_nil]; omega) 3000 (by simp only [List.length_nil]; omega), Option.bind_some]
    simp only
    rw [done_wt _ _ _ _ (by omega) (by simp only [List.length_nil]; omega) 3000 (by omega), Option.bind_some, sum_eq x.f0 x.f1 (mkB l) (by rw [mkB_size]; omega) 3000 (by rw [mkB_size]; omega), Option.bind_some, mkB_list, sum_wt, Int.zero_add, if_pos rfl]
    have ht : (((wt (init x.f0 x.f1) [] l).2.length : Nat) : Int) = (l.length : Int) % 8 := by rw [wt_left]; simp only [List.length_nil]; omega
    rw [write_wt (wt (init x.f0 x.f1) [] l).1 (wt (init x.f0 x.f1) [] l).2 l l.length (by omega) ht (by omega) (by omega) 3000 (by omega), Option.bind_some, wt_wt]
    simp only
    rw [done_wt _ _ _ _ (by omega) (by simp only [List.length_nil, List.length_append]; omega) 3000 (by omega), Option.bind_some, if_pos (by rw [mkB_size]; omega), mkB_append, sum_eq x.f0 x.f1 (mkB (l ++ l)) (by rw [mkB_size, List.length_append]; omega) 3000 (by rw [mkB_size, List.length_append]; omega), Option.bind_some, mkB_list, sum_wt, if_pos (by rw [List.length_append]; rfl)]
    have hw := write_wt (wt (init x.f0 x.f1) [] l).1 (wt (init x.f0 x.f1) [] l).2 [] l.length (by omega) ht (by simp only [List.length_nil]; omega) (by simp only [List.length_nil]; omega) 3000 (by simp only [List.length_nil]; omega)
    rw [wt_nil _ _ (by omega)] at hw
    rw [show (⟨#[]⟩ : ByteArray) = mkB [] from rfl, hw, Option.bind_some]
    simp only [List.length_nil, Int.natCast_zero, Int.add_zero, BEq.rfl, Bool.and_self, if_true]
    have hd := done_eq (init x.f0 x.f1) [] 0 (by omega) rfl 3000 (by omega)
    rw [Option.bind_some]
    simp only
    rw [hd, Option.bind_some, sum_eq x.f0 x.f1 (mkB []) (by decide) 3000 (by decide), Option.bind_some, if_pos (show fin (init x.f0 x.f1) [] 0 = sum x.f0 x.f1 (mkB []).data.toList from rfl), awakeG 3000 (by omega)]
    rfl
end Go.Proofs.Ytibdfimhhagjdaa.Pure
