-- the print's words, cut down by wip/trim.py to what this claim uses
import Derived.Test.YtpbiobbddgipkaaWN
namespace Go.Proofs.YtpbiobbddgipkaaW.PrintWords
open Go.RowKit
namespace Kd
section
variable {α : Type} {d : Kd α} {W : World} {g n : Nat} {S ok : Nat → Prop} {A : Option Addr} {ad : Addr} {xs : List α}
end
end Kd
end Go.Proofs.YtpbiobbddgipkaaW.PrintWords
