-- laid by wip/hyb.py (the kit's printer with turns of ours)
import Derived.Test.YtmfffbafldbihaaHx25
import Derived.Test.YtmfffbafldbihaaHo
namespace Go.Proofs.Ytmfffbafldbihaa.H
/-- What is left of the law BottomTwice: plain Lean. -/
def samphirelaw14_BottomTwice.Pure : Prop := ∀ (x0 : S27) (x1 : ByteArray) (x2 : Int) (x3 : Int), Ok27 x0 → Ok9 x1 → Ok22 x2 → Ok22 x3 → ∃ k, samphirelaw14_BottomTwice.f k x0.f0.f0 x0.f0.f1 x0.f1 x0.f2 x1 x2 x3 = some true
end Go.Proofs.Ytmfffbafldbihaa.H
