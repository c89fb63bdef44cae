-- laid by wip/hyb.py (the kit's printer with turns of ours)
import Derived.Test.YtibdfimhhagjdaaHx8
import Derived.Test.YtibdfimhhagjdaaHo
namespace Go.Proofs.Ytibdfimhhagjdaa.H
/-- What is left of the law SipParts: plain Lean. -/
def samphirelaw05_SipParts.Pure : Prop := ∀ (x0 : S24) (x1 : List ByteArray), Ok24 x0 → Ok28 x1 → ∃ k, samphirelaw05_SipParts.f k x0.f0 x0.f1 x1 = some true
end Go.Proofs.Ytibdfimhhagjdaa.H
