-- laid by wip/hyb.py (the kit's printer with turns of ours)
import Derived.Test.YtmfffbafldbihaaHx19
import Derived.Test.YtmfffbafldbihaaHo
namespace Go.Proofs.Ytmfffbafldbihaa.H
/-- What is left of the law BottomFirst: plain Lean. -/
def l14_BottomFirst.Pure : Prop := ∀ (x0 : S24) (x1 : Int) (x2 : List (S47)) (x3 : Int), Ok24 x0 → Ok5 x1 → Ok41 x2 → Ok5 x3 → ∃ k, l14_BottomFirst.f k x0.f0 x0.f1 x1 x2 x3 = some true
end Go.Proofs.Ytmfffbafldbihaa.H
