-- laid by wip/hyb.py (the kit's printer with turns of ours)
import Derived.Test.YtnpipaehcklnbaaHx10
import Derived.Test.YtnpipaehcklnbaaHo
namespace Go.Proofs.Ytnpipaehcklnbaa.H
/-- What is left of the law ChooseParts: plain Lean. -/
def samphirelaw19_ChooseParts.Pure : Prop := ∀ (x0 : ByteArray) (x1 : List ByteArray) (x2 : List ByteArray), Ok9 x0 → Ok23 x1 → Ok23 x2 → ∃ k, samphirelaw19_ChooseParts.f k x0 x1 x2 = some true
end Go.Proofs.Ytnpipaehcklnbaa.H
