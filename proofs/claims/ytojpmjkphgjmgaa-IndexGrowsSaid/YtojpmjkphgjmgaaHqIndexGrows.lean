-- laid by wip/hyb.py (the kit's printer with turns of ours)
import Derived.Test.YtojpmjkphgjmgaaHx21
import Derived.Test.YtojpmjkphgjmgaaHo
namespace Go.Proofs.Ytojpmjkphgjmgaa.H
/-- What is left of the law IndexGrows: plain Lean. -/
def samphirelaw12_IndexGrows.Pure : Prop := ∀ (x0 : S24) (x1 : List ByteArray), Ok24 x0 → Ok53 x1 → ∃ k, samphirelaw12_IndexGrows.f k x0.f0 x0.f1 x1 = some true
end Go.Proofs.Ytojpmjkphgjmgaa.H
