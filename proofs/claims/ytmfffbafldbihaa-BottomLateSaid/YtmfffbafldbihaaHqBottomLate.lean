-- laid by wip/hyb.py (the kit's printer with turns of ours)
import Derived.Test.YtmfffbafldbihaaHx26
import Derived.Test.YtmfffbafldbihaaHo
namespace Go.Proofs.Ytmfffbafldbihaa.H
/-- What is left of the law BottomLate: plain Lean. -/
def samphirelaw14_BottomLate.Pure : Prop := ∀ (x0 : S27) (x1 : ByteArray) (x2 : Int), Ok27 x0 → Ok9 x1 → Ok22 x2 → ∃ k, samphirelaw14_BottomLate.f k x0.f0.f0 x0.f0.f1 x0.f1 x0.f2 x1 x2 = some true
end Go.Proofs.Ytmfffbafldbihaa.H
