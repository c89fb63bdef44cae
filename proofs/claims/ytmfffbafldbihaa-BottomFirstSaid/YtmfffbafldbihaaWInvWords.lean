import Derived.Test.YtmfffbafldbihaaWInv
import Derived.Test.YtmfffbafldbihaaWFootNe
namespace Go.Proofs.YtmfffbafldbihaaW.PrintWords
open Go.RowKit
end Go.Proofs.YtmfffbafldbihaaW.PrintWords
namespace Go.Proofs.YtmfffbafldbihaaW.PrintLast
section
variable {ops : Array Oper} {a : Act} {o og : Oper} {g : Nat} {t : Tmp} {u : Bool}
end
end Go.Proofs.YtmfffbafldbihaaW.PrintLast
