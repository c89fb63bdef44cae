-- laid by wip/hyb.py (the kit's printer with turns of ours)
import Derived.Test.YtagcobdpojeiiaaHx20
import Derived.Test.YtagcobdpojeiiaaHo
namespace Go.Proofs.Ytagcobdpojeiiaa.H
/-- What is left of the law TracesOld: plain Lean. -/
def l22_TracesOld.Pure : Prop := ∀ (x0 : S27) (x1 : S29), Ok27 x0 → Ok29 x1 → ∃ k, l22_TracesOld.f k x0.f0.f0 x0.f0.f1 x0.f1 x0.f2 x0.f3 x0.f4 x0.f5 x1.f0 x1.f1 x1.f2 x1.f3 = some true
end Go.Proofs.Ytagcobdpojeiiaa.H
