-- laid by wip/hyb.py (the kit's printer with turns of ours)
import Derived.Test.YtpbiobbddgipkaaHx33
import Derived.Test.YtpbiobbddgipkaaHo
namespace Go.Proofs.Ytpbiobbddgipkaa.H
/-- What is left of the law StrataMerges: plain Lean. -/
def l21_StrataMerges.Pure : Prop := ∀ (x0 : S28) (x1 : S28), Ok28 x0 → Ok28 x1 → ∃ k, l21_StrataMerges.f k x0.f0.f0 x0.f0.f1 x0.f1 x0.f2 x0.f3 x1.f0.f0 x1.f0.f1 x1.f1 x1.f2 x1.f3 = some true
end Go.Proofs.Ytpbiobbddgipkaa.H
