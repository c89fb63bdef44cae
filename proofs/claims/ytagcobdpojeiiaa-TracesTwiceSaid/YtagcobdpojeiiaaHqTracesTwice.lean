-- laid by wip/hyb.py (the kit's printer with turns of ours)
import Derived.Test.YtagcobdpojeiiaaHx20
import Derived.Test.YtagcobdpojeiiaaHo
namespace Go.Proofs.Ytagcobdpojeiiaa.H
/-- What is left of the law TracesTwice: plain Lean. -/
def l22_TracesTwice.Pure : Prop := ∀ (x0 : S27) (x1 : Int) (x2 : Int), Ok27 x0 → Ok59 x1 → Ok59 x2 → ∃ k, l22_TracesTwice.f k x0.f0.f0 x0.f0.f1 x0.f1 x0.f2 x0.f3 x0.f4 x0.f5 x1 x2 = some true
end Go.Proofs.Ytagcobdpojeiiaa.H
