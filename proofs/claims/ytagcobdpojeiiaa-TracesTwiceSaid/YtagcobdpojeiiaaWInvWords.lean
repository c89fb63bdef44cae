import Derived.Test.YtagcobdpojeiiaaWInv
import Derived.Test.YtagcobdpojeiiaaWFootNe
namespace Go.Proofs.YtagcobdpojeiiaaW.PrintWords
open Go.RowKit
end Go.Proofs.YtagcobdpojeiiaaW.PrintWords
namespace Go.Proofs.YtagcobdpojeiiaaW.PrintLast
section
variable {ops : Array Oper} {a : Act} {o og : Oper} {g : Nat} {t : Tmp} {u : Bool}
end
end Go.Proofs.YtagcobdpojeiiaaW.PrintLast
