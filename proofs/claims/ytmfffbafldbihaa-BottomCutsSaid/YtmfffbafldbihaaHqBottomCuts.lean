-- laid by wip/hyb.py (the kit's printer with turns of ours)
import Derived.Test.YtmfffbafldbihaaHx25
import Derived.Test.YtmfffbafldbihaaHo
namespace Go.Proofs.Ytmfffbafldbihaa.H
/-- What is left of the law BottomCuts: plain Lean. -/
def samphirelaw14_BottomCuts.Pure : Prop := ∀ (x0 : S24) (x1 : Int) (x2 : Int) (x3 : List (S47)), Ok24 x0 → Ok5 x1 → Ok5 x2 → Ok41 x3 → ∃ k, samphirelaw14_BottomCuts.f k x0.f0 x0.f1 x1 x2 x3 = some true
end Go.Proofs.Ytmfffbafldbihaa.H
