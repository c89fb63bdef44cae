-- laid by wip/hyb.py (the kit's printer with turns of ours)
import Derived.Test.YtnpipaehcklnbaaHx7
import Derived.Test.YtnpipaehcklnbaaHo
namespace Go.Proofs.Ytnpipaehcklnbaa.H
/-- What is left of the law ChooseTells: plain Lean. -/
def samphirelaw19_ChooseTells.Pure : Prop := ∀ (x0 : List (S42)) (x1 : List ByteArray), Ok22 x0 → Ok23 x1 → ∃ k, samphirelaw19_ChooseTells.f k x0 x1 = some true
end Go.Proofs.Ytnpipaehcklnbaa.H
