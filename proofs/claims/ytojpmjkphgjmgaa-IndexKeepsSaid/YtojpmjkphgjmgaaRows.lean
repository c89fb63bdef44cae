/-
  No cell of these rows narrows 'for every input' (looked for: loops, veiled, ifaces, maps, wideKeys, modest, calm, conditions, laid).
  DERIVED. THE GIVEN ROWS OF THIS SEAT. 5 by the template 'for every input the law returns true; each argument reads behind the call as it read before'; 0 by the template 'total and deterministic' (their statements: YtojpmjkphgjmgaaTotals.lean).
  GIVEN WITH THE SEED: the statements are not yours to turn. If you find one false, say at which input.
  Laid BY PROGRAM, IN A SANDBOX (cutbox-rows.mjs): the forced cells as the released guide's own fill.sh prints them over the translation d0a28ee619115a25… (all of the seat's roots in one cut). By AI agents, Wed Nov 11 2026. No macro, syntax, notation, axiom, sorry.
-/
import Derived.Test.YtojpmjkphgjmgaaChecked
import GoSem.Claim
import GoSem.ClaimJoined
import GoSem.ClaimMapViews
import Derived.JoinedTies
import Derived.KernelRfl
namespace Go.Proofs.Ytojpmjkphgjmgaa
/- THE CELL 'sum', in the pinned program and in every row, IS THE sha256 OF THE DUMP (.gsa) THAT YtojpmjkphgjmgaaProg.lean LOADS. Nothing in Lean hashes anything: it is a label: what it is worth is what the hold of that sum in a sandbox is worth. -/
noncomputable def Try.pinned : Pinned := { name := "ytojpmjkphgjmgaa", sum := "d0a28ee619115a25211f5edfd9259c1ff774020e1e3878d8f8f463bec18c9640", checked := Try.checked }
namespace Rows
def none {H : Type} : Left H := { results := [], args := [] }

/-- 'samphirelaw12.IndexTells': WHATEVER THE INPUT: true; the input reads as it did. -/
def indexTellsSpec : ChangeSpec := { name := "indexTells", fn := fun _ => fun
  | [d1, d2, d3] => { results := [.lit (.bool true)], args := [d1, d2, d3] }
  | _ => none }
def indexTellsRow : OpenClaim := { program := "ytojpmjkphgjmgaa", sum := "d0a28ee619115a25211f5edfd9259c1ff774020e1e3878d8f8f463bec18c9640", func := "samphire/samphirelaw12.IndexTells", spec := "indexTells", unfollowed := true, recurses := true, apart := false }
def IndexTellsSaid : Prop := indexTellsRow.holds Try.pinned (OpenSpec.ofChange indexTellsSpec)

/-- ITS FALSE NEIGHBOUR: 'it returns false'. Refute it at one input. -/
def indexTellsWrong : ChangeSpec := { name := "indexTells", fn := fun _ => fun
  | [d1, d2, d3] => { results := [.lit (.bool false)], args := [d1, d2, d3] }
  | _ => none }
def IndexTellsWrongFalsely : Prop := indexTellsRow.holds Try.pinned (OpenSpec.ofChange indexTellsWrong)

/-- 'samphirelaw12.IndexKeeps': WHATEVER THE INPUT: true; the input reads as it did. -/
def indexKeepsSpec : ChangeSpec := { name := "indexKeeps", fn := fun _ => fun
  | [d1, d2] => { results := [.lit (.bool true)], args := [d1, d2] }
  | _ => none }
def indexKeepsRow : OpenClaim := { program := "ytojpmjkphgjmgaa", sum := "d0a28ee619115a25211f5edfd9259c1ff774020e1e3878d8f8f463bec18c9640", func := "samphire/samphirelaw12.IndexKeeps", spec := "indexKeeps", unfollowed := true, recurses := true, apart := false }
def IndexKeepsSaid : Prop := indexKeepsRow.holds Try.pinned (OpenSpec.ofChange indexKeepsSpec)

/-- ITS FALSE NEIGHBOUR: 'it returns false'. Refute it at one input. -/
def indexKeepsWrong : ChangeSpec := { name := "indexKeeps", fn := fun _ => fun
  | [d1, d2] => { results := [.lit (.bool false)], args := [d1, d2] }
  | _ => none }
def IndexKeepsWrongFalsely : Prop := indexKeepsRow.holds Try.pinned (OpenSpec.ofChange indexKeepsWrong)

/-- 'samphirelaw12.IndexBack': WHATEVER THE INPUT: true; the input reads as it did. -/
def indexBackSpec : ChangeSpec := { name := "indexBack", fn := fun _ => fun
  | [d1, d2, d3] => { results := [.lit (.bool true)], args := [d1, d2, d3] }
  | _ => none }
def indexBackRow : OpenClaim := { program := "ytojpmjkphgjmgaa", sum := "d0a28ee619115a25211f5edfd9259c1ff774020e1e3878d8f8f463bec18c9640", func := "samphire/samphirelaw12.IndexBack", spec := "indexBack", unfollowed := true, recurses := true, apart := false }
def IndexBackSaid : Prop := indexBackRow.holds Try.pinned (OpenSpec.ofChange indexBackSpec)

/-- ITS FALSE NEIGHBOUR: 'it returns false'. Refute it at one input. -/
def indexBackWrong : ChangeSpec := { name := "indexBack", fn := fun _ => fun
  | [d1, d2, d3] => { results := [.lit (.bool false)], args := [d1, d2, d3] }
  | _ => none }
def IndexBackWrongFalsely : Prop := indexBackRow.holds Try.pinned (OpenSpec.ofChange indexBackWrong)

/-- 'samphirelaw12.IndexGrows': WHATEVER THE INPUT: true; the input reads as it did. -/
def indexGrowsSpec : ChangeSpec := { name := "indexGrows", fn := fun _ => fun
  | [d1, d2] => { results := [.lit (.bool true)], args := [d1, d2] }
  | _ => none }
def indexGrowsRow : OpenClaim := { program := "ytojpmjkphgjmgaa", sum := "d0a28ee619115a25211f5edfd9259c1ff774020e1e3878d8f8f463bec18c9640", func := "samphire/samphirelaw12.IndexGrows", spec := "indexGrows", unfollowed := true, recurses := true, apart := false }
def IndexGrowsSaid : Prop := indexGrowsRow.holds Try.pinned (OpenSpec.ofChange indexGrowsSpec)

/-- ITS FALSE NEIGHBOUR: 'it returns false'. Refute it at one input. -/
def indexGrowsWrong : ChangeSpec := { name := "indexGrows", fn := fun _ => fun
  | [d1, d2] => { results := [.lit (.bool false)], args := [d1, d2] }
  | _ => none }
def IndexGrowsWrongFalsely : Prop := indexGrowsRow.holds Try.pinned (OpenSpec.ofChange indexGrowsWrong)

/-- 'samphirelaw12.IndexTwice': WHATEVER THE INPUT: true; the input reads as it did. -/
def indexTwiceSpec : ChangeSpec := { name := "indexTwice", fn := fun _ => fun
  | [d1, d2, d3, d4] => { results := [.lit (.bool true)], args := [d1, d2, d3, d4] }
  | _ => none }
def indexTwiceRow : OpenClaim := { program := "ytojpmjkphgjmgaa", sum := "d0a28ee619115a25211f5edfd9259c1ff774020e1e3878d8f8f463bec18c9640", func := "samphire/samphirelaw12.IndexTwice", spec := "indexTwice", unfollowed := true, recurses := true, apart := false }
def IndexTwiceSaid : Prop := indexTwiceRow.holds Try.pinned (OpenSpec.ofChange indexTwiceSpec)

/-- ITS FALSE NEIGHBOUR: 'it returns false'. Refute it at one input. -/
def indexTwiceWrong : ChangeSpec := { name := "indexTwice", fn := fun _ => fun
  | [d1, d2, d3, d4] => { results := [.lit (.bool false)], args := [d1, d2, d3, d4] }
  | _ => none }
def IndexTwiceWrongFalsely : Prop := indexTwiceRow.holds Try.pinned (OpenSpec.ofChange indexTwiceWrong)

/- THE SECOND FORM. 'bulk': how many values and letters a reading holds, each counted each time it is reached (what is shared counts as often as it is met; a slice's spare places count too). A statement '..UptoSaid' is the law's where the arguments, and the package variables that the reading takes, are together of bulk at most 1048576: NARROWER than '..Said'. Prove '..Said' where nothing that the law and all that it calls make is longer than what came in: it says more and counts as full. Else prove '..UptoSaid'. A law counts once. -/
mutual
def uptoBulk {H : Type} : DataW H → Nat
  | .lit (.string bytes) => bytes.length + 1
  | .lit _ => 1
  | .nil => 1
  | .ptr d => uptoBulk d + 1
  | .slice elems spare => uptoBulkAll elems + uptoBulkAll spare + 1
  | .agg parts => uptoBulkAll parts + 1
  | .iface _ d => uptoBulk d + 1
  | .map entries => uptoBulkEntries entries + 1
  | .held _ => 1
def uptoBulkAll {H : Type} : List (DataW H) → Nat
  | [] => 0
  | d :: r => uptoBulk d + uptoBulkAll r
def uptoBulkEntries {H : Type} : List (Lit × DataW H) → Nat
  | [] => 0
  | x :: r => uptoBulkEntry x + uptoBulkEntries r
def uptoBulkEntry {H : Type} : Lit × DataW H → Nat
  | (.string bytes, d) => bytes.length + uptoBulk d + 1
  | (_, d) => uptoBulk d + 1
 end
def uptoSmall : (H : Type) → List (DataW H) → Bool := fun _ ds => decide (uptoBulkAll ds ≤ 1048576)
def OpenSpec.upto (s : _root_.Go.ChangeSpec) : _root_.Go.OpenSpec := { _root_.Go.OpenSpec.ofChange s with cond := some uptoSmall }

/-- 'samphirelaw12.IndexTells', WHERE WHAT IT READS IS OF BULK AT MOST 1048576: true; the input reads as it did. -/
def indexTellsUptoRow : OpenClaim := { program := "ytojpmjkphgjmgaa", sum := "d0a28ee619115a25211f5edfd9259c1ff774020e1e3878d8f8f463bec18c9640", func := "samphire/samphirelaw12.IndexTells", spec := "indexTells", unfollowed := true, recurses := true, apart := false, narrowed := true }
def IndexTellsUptoSaid : Prop := indexTellsUptoRow.holds Try.pinned (OpenSpec.upto indexTellsSpec)

/-- 'samphirelaw12.IndexKeeps', WHERE WHAT IT READS IS OF BULK AT MOST 1048576: true; the input reads as it did. -/
def indexKeepsUptoRow : OpenClaim := { program := "ytojpmjkphgjmgaa", sum := "d0a28ee619115a25211f5edfd9259c1ff774020e1e3878d8f8f463bec18c9640", func := "samphire/samphirelaw12.IndexKeeps", spec := "indexKeeps", unfollowed := true, recurses := true, apart := false, narrowed := true }
def IndexKeepsUptoSaid : Prop := indexKeepsUptoRow.holds Try.pinned (OpenSpec.upto indexKeepsSpec)

/-- 'samphirelaw12.IndexBack', WHERE WHAT IT READS IS OF BULK AT MOST 1048576: true; the input reads as it did. -/
def indexBackUptoRow : OpenClaim := { program := "ytojpmjkphgjmgaa", sum := "d0a28ee619115a25211f5edfd9259c1ff774020e1e3878d8f8f463bec18c9640", func := "samphire/samphirelaw12.IndexBack", spec := "indexBack", unfollowed := true, recurses := true, apart := false, narrowed := true }
def IndexBackUptoSaid : Prop := indexBackUptoRow.holds Try.pinned (OpenSpec.upto indexBackSpec)

/-- 'samphirelaw12.IndexGrows', WHERE WHAT IT READS IS OF BULK AT MOST 1048576: true; the input reads as it did. -/
def indexGrowsUptoRow : OpenClaim := { program := "ytojpmjkphgjmgaa", sum := "d0a28ee619115a25211f5edfd9259c1ff774020e1e3878d8f8f463bec18c9640", func := "samphire/samphirelaw12.IndexGrows", spec := "indexGrows", unfollowed := true, recurses := true, apart := false, narrowed := true }
def IndexGrowsUptoSaid : Prop := indexGrowsUptoRow.holds Try.pinned (OpenSpec.upto indexGrowsSpec)

/-- 'samphirelaw12.IndexTwice', WHERE WHAT IT READS IS OF BULK AT MOST 1048576: true; the input reads as it did. -/
def indexTwiceUptoRow : OpenClaim := { program := "ytojpmjkphgjmgaa", sum := "d0a28ee619115a25211f5edfd9259c1ff774020e1e3878d8f8f463bec18c9640", func := "samphire/samphirelaw12.IndexTwice", spec := "indexTwice", unfollowed := true, recurses := true, apart := false, narrowed := true }
def IndexTwiceUptoSaid : Prop := indexTwiceUptoRow.holds Try.pinned (OpenSpec.upto indexTwiceSpec)

end Rows
end Go.Proofs.Ytojpmjkphgjmgaa
