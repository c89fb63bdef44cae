-- laid by wip/hyb.py (the kit's printer with turns of ours)
import Derived.Test.YtmfffbafldbihaaHx23
import Derived.Test.YtmfffbafldbihaaHo
namespace Go.Proofs.Ytmfffbafldbihaa.H
/-- What is left of the law BottomMerges: plain Lean. -/
def l14_BottomMerges.Pure : Prop := ∀ (x0 : S27) (x1 : S27), Ok27 x0 → Ok27 x1 → ∃ k, l14_BottomMerges.f k x0.f0.f0 x0.f0.f1 x0.f1 x0.f2 x1.f0.f0 x1.f0.f1 x1.f1 x1.f2 = some true
end Go.Proofs.Ytmfffbafldbihaa.H
