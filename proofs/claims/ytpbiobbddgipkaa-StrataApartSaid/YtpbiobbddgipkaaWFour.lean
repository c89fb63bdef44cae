-- the print's words, cut down by wip/trim.py to what this claim uses
import Derived.Test.YtpbiobbddgipkaaWTab
namespace Go.Proofs.YtpbiobbddgipkaaW.PrintLast
section
variable {P : Program} {ops : Array Oper} {Q : Exit → Act → World → Prop} {md : Region.Mode} {S : World → Prop} {ds : List Nat} {T : Bool × List (List Nat × List Nat)}
end
end Go.Proofs.YtpbiobbddgipkaaW.PrintLast
