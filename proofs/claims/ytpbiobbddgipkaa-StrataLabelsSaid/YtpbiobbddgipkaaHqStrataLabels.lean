-- laid by wip/hyb.py (the kit's printer with turns of ours)
import Derived.Test.YtpbiobbddgipkaaHx21
import Derived.Test.YtpbiobbddgipkaaHo
namespace Go.Proofs.Ytpbiobbddgipkaa.H
/-- What is left of the law StrataLabels: plain Lean. -/
def samphirelaw21_StrataLabels.Pure : Prop := ∀ (x0 : S24) (x1 : Int) (x2 : List (S35)), Ok24 x0 → Ok5 x1 → Ok25 x2 → ∃ k, samphirelaw21_StrataLabels.f k x0.f0 x0.f1 x1 x2 = some true
end Go.Proofs.Ytpbiobbddgipkaa.H
