-- laid by wip/hyb.py (the kit's printer with turns of ours)
import Derived.Test.YtojpmjkphgjmgaaHx19
import Derived.Test.YtojpmjkphgjmgaaHo
namespace Go.Proofs.Ytojpmjkphgjmgaa.H
/-- What is left of the law IndexKeeps: plain Lean. -/
def l12_IndexKeeps.Pure : Prop := ∀ (x0 : S24) (x1 : List (S56)), Ok24 x0 → Ok51 x1 → ∃ k, l12_IndexKeeps.f k x0.f0 x0.f1 x1 = some true
end Go.Proofs.Ytojpmjkphgjmgaa.H
