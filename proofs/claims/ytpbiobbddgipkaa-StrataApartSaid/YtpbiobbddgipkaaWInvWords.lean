-- the print's words, cut down by wip/trim.py to what this claim uses
import Derived.Test.YtpbiobbddgipkaaWInv
import Derived.Test.YtpbiobbddgipkaaWFootNe
namespace Go.Proofs.YtpbiobbddgipkaaW.PrintWords
open Go.RowKit
end Go.Proofs.YtpbiobbddgipkaaW.PrintWords
namespace Go.Proofs.YtpbiobbddgipkaaW.PrintLast
section
variable {ops : Array Oper} {a : Act} {o og : Oper} {g : Nat} {t : Tmp} {u : Bool}
end
end Go.Proofs.YtpbiobbddgipkaaW.PrintLast
