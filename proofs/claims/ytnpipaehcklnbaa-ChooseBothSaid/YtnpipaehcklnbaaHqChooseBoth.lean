-- laid by wip/hyb.py (the kit's printer with turns of ours)
import Derived.Test.YtnpipaehcklnbaaHx9
import Derived.Test.YtnpipaehcklnbaaHo
namespace Go.Proofs.Ytnpipaehcklnbaa.H
/-- What is left of the law ChooseBoth: plain Lean. -/
def samphirelaw19_ChooseBoth.Pure : Prop := ∀ (x0 : List (S42)) (x1 : List (S42)) (x2 : List ByteArray), Ok22 x0 → Ok22 x1 → Ok23 x2 → ∃ k, samphirelaw19_ChooseBoth.f k x0 x1 x2 = some true
end Go.Proofs.Ytnpipaehcklnbaa.H
