-- laid by wip/hyb.py (the kit's printer with turns of ours)
import Derived.Test.YtojpmjkphgjmgaaHx22
import Derived.Test.YtojpmjkphgjmgaaHo
namespace Go.Proofs.Ytojpmjkphgjmgaa.H
/-- What is left of the law IndexTwice: plain Lean. -/
def samphirelaw12_IndexTwice.Pure : Prop := ∀ (x0 : S27) (x1 : ByteArray) (x2 : Int) (x3 : Int), Ok27 x0 → Ok9 x1 → Ok3 x2 → Ok3 x3 → ∃ k, samphirelaw12_IndexTwice.f k x0.f0.f0 x0.f0.f1 x0.f1 x1 x2 x3 = some true
end Go.Proofs.Ytojpmjkphgjmgaa.H
