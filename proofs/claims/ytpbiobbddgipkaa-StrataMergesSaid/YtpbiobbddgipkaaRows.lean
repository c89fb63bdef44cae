/-
  No cell of these rows narrows 'for every input' (looked for: loops, veiled, ifaces, maps, wideKeys, modest, calm, conditions, laid).
  DERIVED. THE GIVEN ROWS OF THIS SEAT. 5 by the template 'for every input the law returns true; each argument reads behind the call as it read before'; 0 by the template 'total and deterministic' (their statements: YtpbiobbddgipkaaTotals.lean).
  GIVEN WITH THE SEED: the statements are not yours to turn. If you find one false, say at which input.
  Laid BY PROGRAM, IN A SANDBOX (cutbox-rows.mjs): the forced cells as the released guide's own fill.sh prints them over the translation f1e8d12956cd37b9… (all of the seat's roots in one cut). By AI agents, Wed Nov 11 2026. No macro, syntax, notation, axiom, sorry.
-/
import Derived.Test.YtpbiobbddgipkaaChecked
import GoSem.Claim
import GoSem.ClaimJoined
import GoSem.ClaimMapViews
import Derived.JoinedTies
import Derived.KernelRfl
namespace Go.Proofs.Ytpbiobbddgipkaa
/- THE CELL 'sum', in the pinned program and in every row, IS THE sha256 OF THE DUMP (.gsa) THAT YtpbiobbddgipkaaProg.lean LOADS. Nothing in Lean hashes anything: it is a label: what it is worth is what the hold of that sum in a sandbox is worth. -/
noncomputable def Try.pinned : Pinned := { name := "ytpbiobbddgipkaa", sum := "f1e8d12956cd37b959d5874bce7b846850369c59bdffbcb9a7ad839e55acdc94", checked := Try.checked }
namespace Rows
def none {H : Type} : Left H := { results := [], args := [] }

/-- 'samphirelaw21.StrataLabels': WHATEVER THE INPUT: true; the input reads as it did. -/
def strataLabelsSpec : ChangeSpec := { name := "strataLabels", fn := fun _ => fun
  | [d1, d2, d3] => { results := [.lit (.bool true)], args := [d1, d2, d3] }
  | _ => none }
def strataLabelsRow : OpenClaim := { program := "ytpbiobbddgipkaa", sum := "f1e8d12956cd37b959d5874bce7b846850369c59bdffbcb9a7ad839e55acdc94", func := "samphire/samphirelaw21.StrataLabels", spec := "strataLabels", inPlace := ["internal/bytealg.abigen_runtime_cmpstring", "math/bits.Add64", "slices.overlaps[samphire/bottom.Entry]", "slices.overlaps[samphire/strata.Label]"], unfollowed := true, recurses := true, apart := false }
def StrataLabelsSaid : Prop := strataLabelsRow.holds Try.pinned (OpenSpec.ofChange strataLabelsSpec)

/-- ITS FALSE NEIGHBOUR: 'it returns false'. Refute it at one input. -/
def strataLabelsWrong : ChangeSpec := { name := "strataLabels", fn := fun _ => fun
  | [d1, d2, d3] => { results := [.lit (.bool false)], args := [d1, d2, d3] }
  | _ => none }
def StrataLabelsWrongFalsely : Prop := strataLabelsRow.holds Try.pinned (OpenSpec.ofChange strataLabelsWrong)

/-- 'samphirelaw21.StrataApart': WHATEVER THE INPUT: true; the input reads as it did. -/
def strataApartSpec : ChangeSpec := { name := "strataApart", fn := fun _ => fun
  | [d1, d2, d3, d4] => { results := [.lit (.bool true)], args := [d1, d2, d3, d4] }
  | _ => none }
def strataApartRow : OpenClaim := { program := "ytpbiobbddgipkaa", sum := "f1e8d12956cd37b959d5874bce7b846850369c59bdffbcb9a7ad839e55acdc94", func := "samphire/samphirelaw21.StrataApart", spec := "strataApart", inPlace := ["internal/bytealg.abigen_runtime_cmpstring", "math/bits.Add64", "slices.overlaps[samphire/bottom.Entry]", "slices.overlaps[samphire/strata.Label]"], unfollowed := true, recurses := true, apart := false }
def StrataApartSaid : Prop := strataApartRow.holds Try.pinned (OpenSpec.ofChange strataApartSpec)

/-- ITS FALSE NEIGHBOUR: 'it returns false'. Refute it at one input. -/
def strataApartWrong : ChangeSpec := { name := "strataApart", fn := fun _ => fun
  | [d1, d2, d3, d4] => { results := [.lit (.bool false)], args := [d1, d2, d3, d4] }
  | _ => none }
def StrataApartWrongFalsely : Prop := strataApartRow.holds Try.pinned (OpenSpec.ofChange strataApartWrong)

/-- 'samphirelaw21.StrataTells': WHATEVER THE INPUT: true; the input reads as it did. -/
def strataTellsSpec : ChangeSpec := { name := "strataTells", fn := fun _ => fun
  | [d1, d2, d3, d4] => { results := [.lit (.bool true)], args := [d1, d2, d3, d4] }
  | _ => none }
def strataTellsRow : OpenClaim := { program := "ytpbiobbddgipkaa", sum := "f1e8d12956cd37b959d5874bce7b846850369c59bdffbcb9a7ad839e55acdc94", func := "samphire/samphirelaw21.StrataTells", spec := "strataTells", inPlace := ["internal/bytealg.abigen_runtime_cmpstring", "math/bits.Add64", "slices.overlaps[samphire/bottom.Entry]", "slices.overlaps[samphire/strata.Label]"], unfollowed := true, recurses := true, apart := false }
def StrataTellsSaid : Prop := strataTellsRow.holds Try.pinned (OpenSpec.ofChange strataTellsSpec)

/-- ITS FALSE NEIGHBOUR: 'it returns false'. Refute it at one input. -/
def strataTellsWrong : ChangeSpec := { name := "strataTells", fn := fun _ => fun
  | [d1, d2, d3, d4] => { results := [.lit (.bool false)], args := [d1, d2, d3, d4] }
  | _ => none }
def StrataTellsWrongFalsely : Prop := strataTellsRow.holds Try.pinned (OpenSpec.ofChange strataTellsWrong)

/-- 'samphirelaw21.StrataMerges': WHATEVER THE INPUT: true; the input reads as it did. -/
def strataMergesSpec : ChangeSpec := { name := "strataMerges", fn := fun _ => fun
  | [d1, d2] => { results := [.lit (.bool true)], args := [d1, d2] }
  | _ => none }
def strataMergesRow : OpenClaim := { program := "ytpbiobbddgipkaa", sum := "f1e8d12956cd37b959d5874bce7b846850369c59bdffbcb9a7ad839e55acdc94", func := "samphire/samphirelaw21.StrataMerges", spec := "strataMerges", inPlace := ["internal/bytealg.abigen_runtime_cmpstring", "math/bits.Add64", "slices.overlaps[samphire/bottom.Entry]", "slices.overlaps[samphire/strata.Label]"], unfollowed := true, recurses := true, apart := false }
def StrataMergesSaid : Prop := strataMergesRow.holds Try.pinned (OpenSpec.ofChange strataMergesSpec)

/-- ITS FALSE NEIGHBOUR: 'it returns false'. Refute it at one input. -/
def strataMergesWrong : ChangeSpec := { name := "strataMerges", fn := fun _ => fun
  | [d1, d2] => { results := [.lit (.bool false)], args := [d1, d2] }
  | _ => none }
def StrataMergesWrongFalsely : Prop := strataMergesRow.holds Try.pinned (OpenSpec.ofChange strataMergesWrong)

/-- 'samphirelaw21.StrataFirst': WHATEVER THE INPUT: true; the input reads as it did. -/
def strataFirstSpec : ChangeSpec := { name := "strataFirst", fn := fun _ => fun
  | [d1, d2, d3, d4, d5] => { results := [.lit (.bool true)], args := [d1, d2, d3, d4, d5] }
  | _ => none }
def strataFirstRow : OpenClaim := { program := "ytpbiobbddgipkaa", sum := "f1e8d12956cd37b959d5874bce7b846850369c59bdffbcb9a7ad839e55acdc94", func := "samphire/samphirelaw21.StrataFirst", spec := "strataFirst", inPlace := ["internal/bytealg.abigen_runtime_cmpstring", "math/bits.Add64", "slices.overlaps[samphire/bottom.Entry]", "slices.overlaps[samphire/strata.Label]"], unfollowed := true, recurses := true, apart := false }
def StrataFirstSaid : Prop := strataFirstRow.holds Try.pinned (OpenSpec.ofChange strataFirstSpec)

/-- ITS FALSE NEIGHBOUR: 'it returns false'. Refute it at one input. -/
def strataFirstWrong : ChangeSpec := { name := "strataFirst", fn := fun _ => fun
  | [d1, d2, d3, d4, d5] => { results := [.lit (.bool false)], args := [d1, d2, d3, d4, d5] }
  | _ => none }
def StrataFirstWrongFalsely : Prop := strataFirstRow.holds Try.pinned (OpenSpec.ofChange strataFirstWrong)

/- THE SECOND FORM. 'bulk': how many values and letters a reading holds, each counted each time it is reached (what is shared counts as often as it is met; a slice's spare places count too). A statement '..UptoSaid' is the law's where the arguments, and the package variables that the reading takes, are together of bulk at most 1048576: NARROWER than '..Said'. Prove '..Said' where nothing that the law and all that it calls make is longer than what came in: it says more and counts as full. Else prove '..UptoSaid'. A law counts once. -/
mutual
def uptoBulk {H : Type} : DataW H → Nat
  | .lit (.string bytes) => bytes.length + 1
  | .lit _ => 1
  | .nil => 1
  | .ptr d => uptoBulk d + 1
  | .slice elems spare => uptoBulkAll elems + uptoBulkAll spare + 1
  | .agg parts => uptoBulkAll parts + 1
  | .iface _ d => uptoBulk d + 1
  | .map entries => uptoBulkEntries entries + 1
  | .held _ => 1
def uptoBulkAll {H : Type} : List (DataW H) → Nat
  | [] => 0
  | d :: r => uptoBulk d + uptoBulkAll r
def uptoBulkEntries {H : Type} : List (Lit × DataW H) → Nat
  | [] => 0
  | x :: r => uptoBulkEntry x + uptoBulkEntries r
def uptoBulkEntry {H : Type} : Lit × DataW H → Nat
  | (.string bytes, d) => bytes.length + uptoBulk d + 1
  | (_, d) => uptoBulk d + 1
 end
def uptoSmall : (H : Type) → List (DataW H) → Bool := fun _ ds => decide (uptoBulkAll ds ≤ 1048576)
def OpenSpec.upto (s : _root_.Go.ChangeSpec) : _root_.Go.OpenSpec := { _root_.Go.OpenSpec.ofChange s with cond := some uptoSmall }

/-- 'samphirelaw21.StrataLabels', WHERE WHAT IT READS IS OF BULK AT MOST 1048576: true; the input reads as it did. -/
def strataLabelsUptoRow : OpenClaim := { program := "ytpbiobbddgipkaa", sum := "f1e8d12956cd37b959d5874bce7b846850369c59bdffbcb9a7ad839e55acdc94", func := "samphire/samphirelaw21.StrataLabels", spec := "strataLabels", inPlace := ["internal/bytealg.abigen_runtime_cmpstring", "math/bits.Add64", "slices.overlaps[samphire/bottom.Entry]", "slices.overlaps[samphire/strata.Label]"], unfollowed := true, recurses := true, apart := false, narrowed := true }
def StrataLabelsUptoSaid : Prop := strataLabelsUptoRow.holds Try.pinned (OpenSpec.upto strataLabelsSpec)

/-- 'samphirelaw21.StrataApart', WHERE WHAT IT READS IS OF BULK AT MOST 1048576: true; the input reads as it did. -/
def strataApartUptoRow : OpenClaim := { program := "ytpbiobbddgipkaa", sum := "f1e8d12956cd37b959d5874bce7b846850369c59bdffbcb9a7ad839e55acdc94", func := "samphire/samphirelaw21.StrataApart", spec := "strataApart", inPlace := ["internal/bytealg.abigen_runtime_cmpstring", "math/bits.Add64", "slices.overlaps[samphire/bottom.Entry]", "slices.overlaps[samphire/strata.Label]"], unfollowed := true, recurses := true, apart := false, narrowed := true }
def StrataApartUptoSaid : Prop := strataApartUptoRow.holds Try.pinned (OpenSpec.upto strataApartSpec)

/-- 'samphirelaw21.StrataTells', WHERE WHAT IT READS IS OF BULK AT MOST 1048576: true; the input reads as it did. -/
def strataTellsUptoRow : OpenClaim := { program := "ytpbiobbddgipkaa", sum := "f1e8d12956cd37b959d5874bce7b846850369c59bdffbcb9a7ad839e55acdc94", func := "samphire/samphirelaw21.StrataTells", spec := "strataTells", inPlace := ["internal/bytealg.abigen_runtime_cmpstring", "math/bits.Add64", "slices.overlaps[samphire/bottom.Entry]", "slices.overlaps[samphire/strata.Label]"], unfollowed := true, recurses := true, apart := false, narrowed := true }
def StrataTellsUptoSaid : Prop := strataTellsUptoRow.holds Try.pinned (OpenSpec.upto strataTellsSpec)

/-- 'samphirelaw21.StrataMerges', WHERE WHAT IT READS IS OF BULK AT MOST 1048576: true; the input reads as it did. -/
def strataMergesUptoRow : OpenClaim := { program := "ytpbiobbddgipkaa", sum := "f1e8d12956cd37b959d5874bce7b846850369c59bdffbcb9a7ad839e55acdc94", func := "samphire/samphirelaw21.StrataMerges", spec := "strataMerges", inPlace := ["internal/bytealg.abigen_runtime_cmpstring", "math/bits.Add64", "slices.overlaps[samphire/bottom.Entry]", "slices.overlaps[samphire/strata.Label]"], unfollowed := true, recurses := true, apart := false, narrowed := true }
def StrataMergesUptoSaid : Prop := strataMergesUptoRow.holds Try.pinned (OpenSpec.upto strataMergesSpec)

/-- 'samphirelaw21.StrataFirst', WHERE WHAT IT READS IS OF BULK AT MOST 1048576: true; the input reads as it did. -/
def strataFirstUptoRow : OpenClaim := { program := "ytpbiobbddgipkaa", sum := "f1e8d12956cd37b959d5874bce7b846850369c59bdffbcb9a7ad839e55acdc94", func := "samphire/samphirelaw21.StrataFirst", spec := "strataFirst", inPlace := ["internal/bytealg.abigen_runtime_cmpstring", "math/bits.Add64", "slices.overlaps[samphire/bottom.Entry]", "slices.overlaps[samphire/strata.Label]"], unfollowed := true, recurses := true, apart := false, narrowed := true }
def StrataFirstUptoSaid : Prop := strataFirstUptoRow.holds Try.pinned (OpenSpec.upto strataFirstSpec)

end Rows
end Go.Proofs.Ytpbiobbddgipkaa
