-- the print's words, cut down by wip/trim.py to what this claim uses
import Derived.Test.YtojpmjkphgjmgaaWInv
import Derived.Test.YtojpmjkphgjmgaaWFootNe
namespace Go.Proofs.YtojpmjkphgjmgaaW.PrintWords
open Go.RowKit
end Go.Proofs.YtojpmjkphgjmgaaW.PrintWords
namespace Go.Proofs.YtojpmjkphgjmgaaW.PrintLast
section
variable {ops : Array Oper} {a : Act} {o og : Oper} {g : Nat} {t : Tmp} {u : Bool}
end
end Go.Proofs.YtojpmjkphgjmgaaW.PrintLast
