-- laid by wip/hyb.py (the kit's printer with turns of ours)
import Derived.Test.YtmfffbafldbihaaHx29
import Derived.Test.YtmfffbafldbihaaHo
namespace Go.Proofs.Ytmfffbafldbihaa.H
/-- What is left of the law BottomTells: plain Lean. -/
def l14_BottomTells.Pure : Prop := ∀ (x0 : S27) (x1 : ByteArray) (x2 : Int) (x3 : Int), Ok27 x0 → Ok9 x1 → Ok22 x2 → Ok3 x3 → ∃ k, l14_BottomTells.f k x0.f0.f0 x0.f0.f1 x0.f1 x0.f2 x1 x2 x3 = some true
end Go.Proofs.Ytmfffbafldbihaa.H
