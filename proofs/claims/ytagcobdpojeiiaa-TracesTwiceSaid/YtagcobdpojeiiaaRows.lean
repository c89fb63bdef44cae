/-
  No cell of these rows narrows 'for every input' (looked for: loops, veiled, ifaces, maps, wideKeys, modest, calm, conditions, laid).
  DERIVED. THE GIVEN ROWS OF THIS SEAT. 6 by the template 'for every input the law returns true; each argument reads behind the call as it read before'; 0 by the template 'total and deterministic' (their statements: YtagcobdpojeiiaaTotals.lean).
  GIVEN WITH THE SEED: the statements are not yours to turn. If you find one false, say at which input.
  Laid BY PROGRAM, IN A SANDBOX (cutbox-rows.mjs): the forced cells as the released guide's own fill.sh prints them over the translation 19cfd591f9f3b06a… (all of the seat's roots in one cut). By AI agents, Wed Nov 11 2026. No macro, syntax, notation, axiom, sorry.
-/
import Derived.Test.YtagcobdpojeiiaaChecked
import GoSem.Claim
import GoSem.ClaimJoined
import GoSem.ClaimMapViews
import Derived.JoinedTies
import Derived.KernelRfl
namespace Go.Proofs.Ytagcobdpojeiiaa
/- THE CELL 'sum', in the pinned program and in every row, IS THE sha256 OF THE DUMP (.gsa) THAT YtagcobdpojeiiaaProg.lean LOADS. Nothing in Lean hashes anything: it is a label: what it is worth is what the hold of that sum in a sandbox is worth. -/
noncomputable def Try.pinned : Pinned := { name := "ytagcobdpojeiiaa", sum := "19cfd591f9f3b06a1057577c968633ed05cfa5c440e725613b39808acf0fe274", checked := Try.checked }
namespace Rows
def none {H : Type} : Left H := { results := [], args := [] }

/-- 'samphirelaw22.TracesTells': WHATEVER THE INPUT: true; the input reads as it did. -/
def tracesTellsSpec : ChangeSpec := { name := "tracesTells", fn := fun _ => fun
  | [d1, d2, d3] => { results := [.lit (.bool true)], args := [d1, d2, d3] }
  | _ => none }
def tracesTellsRow : OpenClaim := { program := "ytagcobdpojeiiaa", sum := "19cfd591f9f3b06a1057577c968633ed05cfa5c440e725613b39808acf0fe274", func := "samphire/samphirelaw22.TracesTells", spec := "tracesTells", inPlace := ["internal/bytealg.abigen_runtime_cmpstring", "slices.overlaps[samphire/traces.Trace]", "slices.overlaps[samphire/traces.Bucket]", "slices.overlaps[samphire/traces.Label]", "slices.overlaps[samphire/traces.Epoch]"], unfollowed := true, recurses := true, apart := false }
def TracesTellsSaid : Prop := tracesTellsRow.holds Try.pinned (OpenSpec.ofChange tracesTellsSpec)

/-- ITS FALSE NEIGHBOUR: 'it returns false'. Refute it at one input. -/
def tracesTellsWrong : ChangeSpec := { name := "tracesTells", fn := fun _ => fun
  | [d1, d2, d3] => { results := [.lit (.bool false)], args := [d1, d2, d3] }
  | _ => none }
def TracesTellsWrongFalsely : Prop := tracesTellsRow.holds Try.pinned (OpenSpec.ofChange tracesTellsWrong)

/-- 'samphirelaw22.TracesOld': WHATEVER THE INPUT: true; the input reads as it did. -/
def tracesOldSpec : ChangeSpec := { name := "tracesOld", fn := fun _ => fun
  | [d1, d2] => { results := [.lit (.bool true)], args := [d1, d2] }
  | _ => none }
def tracesOldRow : OpenClaim := { program := "ytagcobdpojeiiaa", sum := "19cfd591f9f3b06a1057577c968633ed05cfa5c440e725613b39808acf0fe274", func := "samphire/samphirelaw22.TracesOld", spec := "tracesOld", inPlace := ["internal/bytealg.abigen_runtime_cmpstring", "slices.overlaps[samphire/traces.Trace]", "slices.overlaps[samphire/traces.Bucket]", "slices.overlaps[samphire/traces.Label]", "slices.overlaps[samphire/traces.Epoch]"], unfollowed := true, recurses := true, apart := false }
def TracesOldSaid : Prop := tracesOldRow.holds Try.pinned (OpenSpec.ofChange tracesOldSpec)

/-- ITS FALSE NEIGHBOUR: 'it returns false'. Refute it at one input. -/
def tracesOldWrong : ChangeSpec := { name := "tracesOld", fn := fun _ => fun
  | [d1, d2] => { results := [.lit (.bool false)], args := [d1, d2] }
  | _ => none }
def TracesOldWrongFalsely : Prop := tracesOldRow.holds Try.pinned (OpenSpec.ofChange tracesOldWrong)

/-- 'samphirelaw22.TracesMerges': WHATEVER THE INPUT: true; the input reads as it did. -/
def tracesMergesSpec : ChangeSpec := { name := "tracesMerges", fn := fun _ => fun
  | [d1, d2] => { results := [.lit (.bool true)], args := [d1, d2] }
  | _ => none }
def tracesMergesRow : OpenClaim := { program := "ytagcobdpojeiiaa", sum := "19cfd591f9f3b06a1057577c968633ed05cfa5c440e725613b39808acf0fe274", func := "samphire/samphirelaw22.TracesMerges", spec := "tracesMerges", inPlace := ["internal/bytealg.abigen_runtime_cmpstring", "slices.overlaps[samphire/traces.Trace]", "slices.overlaps[samphire/traces.Bucket]", "slices.overlaps[samphire/traces.Label]", "slices.overlaps[samphire/traces.Epoch]"], unfollowed := true, recurses := true, apart := false }
def TracesMergesSaid : Prop := tracesMergesRow.holds Try.pinned (OpenSpec.ofChange tracesMergesSpec)

/-- ITS FALSE NEIGHBOUR: 'it returns false'. Refute it at one input. -/
def tracesMergesWrong : ChangeSpec := { name := "tracesMerges", fn := fun _ => fun
  | [d1, d2] => { results := [.lit (.bool false)], args := [d1, d2] }
  | _ => none }
def TracesMergesWrongFalsely : Prop := tracesMergesRow.holds Try.pinned (OpenSpec.ofChange tracesMergesWrong)

/-- 'samphirelaw22.TracesAll': WHATEVER THE INPUT: true; the input reads as it did. -/
def tracesAllSpec : ChangeSpec := { name := "tracesAll", fn := fun _ => fun
  | [d1, d2, d3, d4, d5, d6] => { results := [.lit (.bool true)], args := [d1, d2, d3, d4, d5, d6] }
  | _ => none }
def tracesAllRow : OpenClaim := { program := "ytagcobdpojeiiaa", sum := "19cfd591f9f3b06a1057577c968633ed05cfa5c440e725613b39808acf0fe274", func := "samphire/samphirelaw22.TracesAll", spec := "tracesAll", inPlace := ["internal/bytealg.abigen_runtime_cmpstring", "slices.overlaps[samphire/traces.Trace]", "slices.overlaps[samphire/traces.Bucket]", "slices.overlaps[samphire/traces.Label]", "slices.overlaps[samphire/traces.Epoch]"], unfollowed := true, recurses := true, apart := false }
def TracesAllSaid : Prop := tracesAllRow.holds Try.pinned (OpenSpec.ofChange tracesAllSpec)

/-- ITS FALSE NEIGHBOUR: 'it returns false'. Refute it at one input. -/
def tracesAllWrong : ChangeSpec := { name := "tracesAll", fn := fun _ => fun
  | [d1, d2, d3, d4, d5, d6] => { results := [.lit (.bool false)], args := [d1, d2, d3, d4, d5, d6] }
  | _ => none }
def TracesAllWrongFalsely : Prop := tracesAllRow.holds Try.pinned (OpenSpec.ofChange tracesAllWrong)

/-- 'samphirelaw22.TracesAgain': WHATEVER THE INPUT: true; the input reads as it did. -/
def tracesAgainSpec : ChangeSpec := { name := "tracesAgain", fn := fun _ => fun
  | [d] => { results := [.lit (.bool true)], args := [d] }
  | _ => none }
def tracesAgainRow : OpenClaim := { program := "ytagcobdpojeiiaa", sum := "19cfd591f9f3b06a1057577c968633ed05cfa5c440e725613b39808acf0fe274", func := "samphire/samphirelaw22.TracesAgain", spec := "tracesAgain", inPlace := ["internal/bytealg.abigen_runtime_cmpstring", "slices.overlaps[samphire/traces.Trace]", "slices.overlaps[samphire/traces.Bucket]", "slices.overlaps[samphire/traces.Label]", "slices.overlaps[samphire/traces.Epoch]"], unfollowed := true, recurses := true, apart := false }
def TracesAgainSaid : Prop := tracesAgainRow.holds Try.pinned (OpenSpec.ofChange tracesAgainSpec)

/-- ITS FALSE NEIGHBOUR: 'it returns false'. Refute it at one input. -/
def tracesAgainWrong : ChangeSpec := { name := "tracesAgain", fn := fun _ => fun
  | [d] => { results := [.lit (.bool false)], args := [d] }
  | _ => none }
def TracesAgainWrongFalsely : Prop := tracesAgainRow.holds Try.pinned (OpenSpec.ofChange tracesAgainWrong)

/-- 'samphirelaw22.TracesTwice': WHATEVER THE INPUT: true; the input reads as it did. -/
def tracesTwiceSpec : ChangeSpec := { name := "tracesTwice", fn := fun _ => fun
  | [d1, d2, d3] => { results := [.lit (.bool true)], args := [d1, d2, d3] }
  | _ => none }
def tracesTwiceRow : OpenClaim := { program := "ytagcobdpojeiiaa", sum := "19cfd591f9f3b06a1057577c968633ed05cfa5c440e725613b39808acf0fe274", func := "samphire/samphirelaw22.TracesTwice", spec := "tracesTwice", inPlace := ["internal/bytealg.abigen_runtime_cmpstring", "slices.overlaps[samphire/traces.Trace]", "slices.overlaps[samphire/traces.Bucket]", "slices.overlaps[samphire/traces.Label]", "slices.overlaps[samphire/traces.Epoch]"], unfollowed := true, recurses := true, apart := false }
def TracesTwiceSaid : Prop := tracesTwiceRow.holds Try.pinned (OpenSpec.ofChange tracesTwiceSpec)

/-- ITS FALSE NEIGHBOUR: 'it returns false'. Refute it at one input. -/
def tracesTwiceWrong : ChangeSpec := { name := "tracesTwice", fn := fun _ => fun
  | [d1, d2, d3] => { results := [.lit (.bool false)], args := [d1, d2, d3] }
  | _ => none }
def TracesTwiceWrongFalsely : Prop := tracesTwiceRow.holds Try.pinned (OpenSpec.ofChange tracesTwiceWrong)

/- THE SECOND FORM. 'bulk': how many values and letters a reading holds, each counted each time it is reached (what is shared counts as often as it is met; a slice's spare places count too). A statement '..UptoSaid' is the law's where the arguments, and the package variables that the reading takes, are together of bulk at most 1048576: NARROWER than '..Said'. Prove '..Said' where nothing that the law and all that it calls make is longer than what came in: it says more and counts as full. Else prove '..UptoSaid'. A law counts once. -/
mutual
def uptoBulk {H : Type} : DataW H → Nat
  | .lit (.string bytes) => bytes.length + 1
  | .lit _ => 1
  | .nil => 1
  | .ptr d => uptoBulk d + 1
  | .slice elems spare => uptoBulkAll elems + uptoBulkAll spare + 1
  | .agg parts => uptoBulkAll parts + 1
  | .iface _ d => uptoBulk d + 1
  | .map entries => uptoBulkEntries entries + 1
  | .held _ => 1
def uptoBulkAll {H : Type} : List (DataW H) → Nat
  | [] => 0
  | d :: r => uptoBulk d + uptoBulkAll r
def uptoBulkEntries {H : Type} : List (Lit × DataW H) → Nat
  | [] => 0
  | x :: r => uptoBulkEntry x + uptoBulkEntries r
def uptoBulkEntry {H : Type} : Lit × DataW H → Nat
  | (.string bytes, d) => bytes.length + uptoBulk d + 1
  | (_, d) => uptoBulk d + 1
 end
def uptoSmall : (H : Type) → List (DataW H) → Bool := fun _ ds => decide (uptoBulkAll ds ≤ 1048576)
def OpenSpec.upto (s : _root_.Go.ChangeSpec) : _root_.Go.OpenSpec := { _root_.Go.OpenSpec.ofChange s with cond := some uptoSmall }

/-- 'samphirelaw22.TracesTells', WHERE WHAT IT READS IS OF BULK AT MOST 1048576: true; the input reads as it did. -/
def tracesTellsUptoRow : OpenClaim := { program := "ytagcobdpojeiiaa", sum := "19cfd591f9f3b06a1057577c968633ed05cfa5c440e725613b39808acf0fe274", func := "samphire/samphirelaw22.TracesTells", spec := "tracesTells", inPlace := ["internal/bytealg.abigen_runtime_cmpstring", "slices.overlaps[samphire/traces.Trace]", "slices.overlaps[samphire/traces.Bucket]", "slices.overlaps[samphire/traces.Label]", "slices.overlaps[samphire/traces.Epoch]"], unfollowed := true, recurses := true, apart := false, narrowed := true }
def TracesTellsUptoSaid : Prop := tracesTellsUptoRow.holds Try.pinned (OpenSpec.upto tracesTellsSpec)

/-- 'samphirelaw22.TracesOld', WHERE WHAT IT READS IS OF BULK AT MOST 1048576: true; the input reads as it did. -/
def tracesOldUptoRow : OpenClaim := { program := "ytagcobdpojeiiaa", sum := "19cfd591f9f3b06a1057577c968633ed05cfa5c440e725613b39808acf0fe274", func := "samphire/samphirelaw22.TracesOld", spec := "tracesOld", inPlace := ["internal/bytealg.abigen_runtime_cmpstring", "slices.overlaps[samphire/traces.Trace]", "slices.overlaps[samphire/traces.Bucket]", "slices.overlaps[samphire/traces.Label]", "slices.overlaps[samphire/traces.Epoch]"], unfollowed := true, recurses := true, apart := false, narrowed := true }
def TracesOldUptoSaid : Prop := tracesOldUptoRow.holds Try.pinned (OpenSpec.upto tracesOldSpec)

/-- 'samphirelaw22.TracesMerges', WHERE WHAT IT READS IS OF BULK AT MOST 1048576: true; the input reads as it did. -/
def tracesMergesUptoRow : OpenClaim := { program := "ytagcobdpojeiiaa", sum := "19cfd591f9f3b06a1057577c968633ed05cfa5c440e725613b39808acf0fe274", func := "samphire/samphirelaw22.TracesMerges", spec := "tracesMerges", inPlace := ["internal/bytealg.abigen_runtime_cmpstring", "slices.overlaps[samphire/traces.Trace]", "slices.overlaps[samphire/traces.Bucket]", "slices.overlaps[samphire/traces.Label]", "slices.overlaps[samphire/traces.Epoch]"], unfollowed := true, recurses := true, apart := false, narrowed := true }
def TracesMergesUptoSaid : Prop := tracesMergesUptoRow.holds Try.pinned (OpenSpec.upto tracesMergesSpec)

/-- 'samphirelaw22.TracesAll', WHERE WHAT IT READS IS OF BULK AT MOST 1048576: true; the input reads as it did. -/
def tracesAllUptoRow : OpenClaim := { program := "ytagcobdpojeiiaa", sum := "19cfd591f9f3b06a1057577c968633ed05cfa5c440e725613b39808acf0fe274", func := "samphire/samphirelaw22.TracesAll", spec := "tracesAll", inPlace := ["internal/bytealg.abigen_runtime_cmpstring", "slices.overlaps[samphire/traces.Trace]", "slices.overlaps[samphire/traces.Bucket]", "slices.overlaps[samphire/traces.Label]", "slices.overlaps[samphire/traces.Epoch]"], unfollowed := true, recurses := true, apart := false, narrowed := true }
def TracesAllUptoSaid : Prop := tracesAllUptoRow.holds Try.pinned (OpenSpec.upto tracesAllSpec)

/-- 'samphirelaw22.TracesAgain', WHERE WHAT IT READS IS OF BULK AT MOST 1048576: true; the input reads as it did. -/
def tracesAgainUptoRow : OpenClaim := { program := "ytagcobdpojeiiaa", sum := "19cfd591f9f3b06a1057577c968633ed05cfa5c440e725613b39808acf0fe274", func := "samphire/samphirelaw22.TracesAgain", spec := "tracesAgain", inPlace := ["internal/bytealg.abigen_runtime_cmpstring", "slices.overlaps[samphire/traces.Trace]", "slices.overlaps[samphire/traces.Bucket]", "slices.overlaps[samphire/traces.Label]", "slices.overlaps[samphire/traces.Epoch]"], unfollowed := true, recurses := true, apart := false, narrowed := true }
def TracesAgainUptoSaid : Prop := tracesAgainUptoRow.holds Try.pinned (OpenSpec.upto tracesAgainSpec)

/-- 'samphirelaw22.TracesTwice', WHERE WHAT IT READS IS OF BULK AT MOST 1048576: true; the input reads as it did. -/
def tracesTwiceUptoRow : OpenClaim := { program := "ytagcobdpojeiiaa", sum := "19cfd591f9f3b06a1057577c968633ed05cfa5c440e725613b39808acf0fe274", func := "samphire/samphirelaw22.TracesTwice", spec := "tracesTwice", inPlace := ["internal/bytealg.abigen_runtime_cmpstring", "slices.overlaps[samphire/traces.Trace]", "slices.overlaps[samphire/traces.Bucket]", "slices.overlaps[samphire/traces.Label]", "slices.overlaps[samphire/traces.Epoch]"], unfollowed := true, recurses := true, apart := false, narrowed := true }
def TracesTwiceUptoSaid : Prop := tracesTwiceUptoRow.holds Try.pinned (OpenSpec.upto tracesTwiceSpec)

end Rows
end Go.Proofs.Ytagcobdpojeiiaa
