-- laid by wip/hyb.py (the kit's printer with turns of ours)
import Derived.Test.YtpbiobbddgipkaaHx20
import Derived.Test.YtpbiobbddgipkaaHo
namespace Go.Proofs.Ytpbiobbddgipkaa.H
/-- What is left of the law StrataApart: plain Lean. -/
def samphirelaw21_StrataApart.Pure : Prop := ∀ (x0 : S24) (x1 : Int) (x2 : Int) (x3 : List (S35)), Ok24 x0 → Ok5 x1 → Ok5 x2 → Ok25 x3 → ∃ k, samphirelaw21_StrataApart.f k x0.f0 x0.f1 x1 x2 x3 = some true
end Go.Proofs.Ytpbiobbddgipkaa.H
