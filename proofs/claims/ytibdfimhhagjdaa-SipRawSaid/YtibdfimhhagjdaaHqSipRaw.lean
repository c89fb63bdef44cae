-- laid by wip/hyb.py (the kit's printer with turns of ours)
import Derived.Test.YtibdfimhhagjdaaHx9
import Derived.Test.YtibdfimhhagjdaaHo
namespace Go.Proofs.Ytibdfimhhagjdaa.H
/-- What is left of the law SipRaw: plain Lean. -/
def samphirelaw05_SipRaw.Pure : Prop := ∀ (x0 : S31) (x1 : ByteArray), Ok31 x0 → Ok9 x1 → ∃ k, samphirelaw05_SipRaw.f k x0.f0.f0 x0.f0.f1 x0.f0.f2 x0.f0.f3 x0.f1 x0.f2 x1 = some true
end Go.Proofs.Ytibdfimhhagjdaa.H
