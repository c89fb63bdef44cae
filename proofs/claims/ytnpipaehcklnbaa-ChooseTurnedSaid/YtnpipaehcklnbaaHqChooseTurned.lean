-- laid by wip/hyb.py (the kit's printer with turns of ours)
import Derived.Test.YtnpipaehcklnbaaHx11
import Derived.Test.YtnpipaehcklnbaaHo
namespace Go.Proofs.Ytnpipaehcklnbaa.H
/-- What is left of the law ChooseTurned: plain Lean. -/
def samphirelaw19_ChooseTurned.Pure : Prop := ∀ (x0 : List (S42)) (x1 : List ByteArray) (x2 : Int), Ok22 x0 → Ok23 x1 → Ok5 x2 → ∃ k, samphirelaw19_ChooseTurned.f k x0 x1 x2 = some true
end Go.Proofs.Ytnpipaehcklnbaa.H
