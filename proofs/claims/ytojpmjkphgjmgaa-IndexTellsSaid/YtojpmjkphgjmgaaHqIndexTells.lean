-- laid by wip/hyb.py (the kit's printer with turns of ours)
import Derived.Test.YtojpmjkphgjmgaaHx18
import Derived.Test.YtojpmjkphgjmgaaHo
namespace Go.Proofs.Ytojpmjkphgjmgaa.H
/-- What is left of the law IndexTells: plain Lean. -/
def samphirelaw12_IndexTells.Pure : Prop := ∀ (x0 : S27) (x1 : ByteArray) (x2 : Int), Ok27 x0 → Ok9 x1 → Ok3 x2 → ∃ k, samphirelaw12_IndexTells.f k x0.f0.f0 x0.f0.f1 x0.f1 x1 x2 = some true
end Go.Proofs.Ytojpmjkphgjmgaa.H
