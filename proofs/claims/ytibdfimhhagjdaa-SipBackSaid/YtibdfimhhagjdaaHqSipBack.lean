-- laid by wip/hyb.py (the kit's printer with turns of ours)
import Derived.Test.YtibdfimhhagjdaaHx11
import Derived.Test.YtibdfimhhagjdaaHo
namespace Go.Proofs.Ytibdfimhhagjdaa.H
/-- What is left of the law SipBack: plain Lean. -/
def samphirelaw05_SipBack.Pure : Prop := ∀ (x0 : S29) (x1 : S29) (x2 : Int), Ok29 x0 → Ok29 x1 → Ok22 x2 → ∃ k, samphirelaw05_SipBack.f k x0.f0 x0.f1 x0.f2 x0.f3 x1.f0 x1.f1 x1.f2 x1.f3 x2 = some true
end Go.Proofs.Ytibdfimhhagjdaa.H
