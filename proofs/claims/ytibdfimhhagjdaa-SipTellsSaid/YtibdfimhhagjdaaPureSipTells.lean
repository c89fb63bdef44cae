/- The law SipTells, in plain Lean: the program's hash and the reference's are one sum, at every text; and the fixed answer holds. -/
import Derived.Test.YtibdfimhhagjdaaHqSipTells
import Derived.Test.YtibdfimhhagjdaaSipRef
import Derived.Test.YtibdfimhhagjdaaHx4
namespace Go.Proofs.Ytibdfimhhagjdaa.Pure
open Go.RowKit Go.Proofs.Ytibdfimhhagjdaa.H Go.Proofs.YtibdfimhhagjdaaW.PrintWords Go.Proofs.Ytibdfimhhagjdaa.Sip

theorem awake_eq (k : Nat) (hk : 20 ≤ k) : samphirelaw05_awake.f k = some true := by
  have h1 := sum_eq 506097522914230528 1084818905618843912 ⟨#[]⟩ (by decide) k (by show 0 / 8 + 9 < k; omega)
  have h2 := sum_eq 506097522914230528 1084818905618843912 ⟨#[0, 1, 2, 3, 4, 5, 6, 7, 8, 9, 10, 11, 12, 13, 14]⟩ (by decide) k (by show 15 / 8 + 9 < k; omega)
  have e1 : sum 506097522914230528 1084818905618843912 [] = 8246050544436514353 := by decide +kernel
  have e2 : sum 506097522914230528 1084818905618843912 [0, 1, 2, 3, 4, 5, 6, 7, 8, 9, 10, 11, 12, 13, 14] = 11613035633349379557 := by decide +kernel
  have h1' : sip_Sum.f k 506097522914230528 1084818905618843912 ⟨#[]⟩ = some 8246050544436514353 := by rw [h1, ← e1]
  have h2' : sip_Sum.f k 506097522914230528 1084818905618843912 ⟨#[0, 1, 2, 3, 4, 5, 6, 7, 8, 9, 10, 11, 12, 13, 14]⟩ = some 11613035633349379557 := by rw [h2, ← e2]
  unfold samphirelaw05_awake.f
  rw [h1', Option.bind_some, if_pos rfl, h2', Option.bind_some]
  rfl

theorem SipTells : H.samphirelaw05_SipTells.Pure := by
  intro x s hx hs
  refine ⟨3000, ?_⟩
  unfold H.samphirelaw05_SipTells.f
  by_cases h : (s.size : Int) > 600
  · rw [if_pos h, awake_eq 3000 (by omega)]
    rfl
  · rw [if_neg h, sum_eq x.f0 x.f1 s (by omega) 3000 (by omega), Option.bind_some, ref_sum_eq x.f0 x.f1 s (by omega) 3000 (by omega), Option.bind_some, if_pos rfl, awake_eq 3000 (by omega)]
    rfl
end Go.Proofs.Ytibdfimhhagjdaa.Pure
