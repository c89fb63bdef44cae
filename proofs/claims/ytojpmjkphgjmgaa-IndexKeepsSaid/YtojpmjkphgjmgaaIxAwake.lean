import Derived.Test.YtojpmjkphgjmgaaHx11
import Derived.KernelRfl
namespace Go.Proofs.Ytojpmjkphgjmgaa.Ix
open Go.RowKit Go.Proofs.Ytojpmjkphgjmgaa.H Go.Proofs.YtojpmjkphgjmgaaW.PrintWords Go.Proofs.YtojpmjkphgjmgaaW.PrintMore
theorem awake60 : l12_awake.f 60 = some true := by kernel_rfl
theorem awake_eq (k : Nat) (hk : 60 ≤ k) : l12_awake.f k = some true := by
 obtain ⟨d, rfl⟩ : ∃ d, k = 60 + d := ⟨k - 60, by omega⟩
 clear hk
 induction d with
 | zero => exact awake60
 | succ d ih => exact l12_awake.mono (60 + d) _ ih
theorem awake_bind (k : Nat) (hk : 60 ≤ k) : ((l12_awake.f k).bind fun t => some t) = some true := by rw [awake_eq k hk]; rfl
end Go.Proofs.Ytojpmjkphgjmgaa.Ix
