/-
  No cell of these rows narrows 'for every input' (looked for: loops, veiled, ifaces, maps, wideKeys, modest, calm, conditions, laid).
  DERIVED. THE GIVEN ROWS OF THIS SEAT. 6 by the template 'for every input the law returns true; each argument reads behind the call as it read before'; 0 by the template 'total and deterministic' (their statements: YtmfffbafldbihaaTotals.lean).
  GIVEN WITH THE SEED: the statements are not yours to turn. If you find one false, say at which input.
  Laid BY PROGRAM, IN A SANDBOX (cutbox-rows.mjs): the forced cells as the released guide's own fill.sh prints them over the translation 389d0c255c1cd686… (all of the seat's roots in one cut). By AI agents, Wed Nov 11 2026. No macro, syntax, notation, axiom, sorry.
-/
import Derived.Test.YtmfffbafldbihaaChecked
import GoSem.Claim
import GoSem.ClaimJoined
import GoSem.ClaimMapViews
import Derived.JoinedTies
import Derived.KernelRfl
namespace Go.Proofs.Ytmfffbafldbihaa
/- THE CELL 'sum', in the pinned program and in every row, IS THE sha256 OF THE DUMP (.gsa) THAT YtmfffbafldbihaaProg.lean LOADS. Nothing in Lean hashes anything: it is a label: what it is worth is what the hold of that sum in a sandbox is worth. -/
noncomputable def Try.pinned : Pinned := { name := "ytmfffbafldbihaa", sum := "389d0c255c1cd686d58fff606f06f4f7dae0802c845938859d603210cbad993f", checked := Try.checked }
namespace Rows
def none {H : Type} : Left H := { results := [], args := [] }

/-- 'samphirelaw14.BottomMerges': WHATEVER THE INPUT: true; the input reads as it did. -/
def bottomMergesSpec : ChangeSpec := { name := "bottomMerges", fn := fun _ => fun
  | [d1, d2] => { results := [.lit (.bool true)], args := [d1, d2] }
  | _ => none }
def bottomMergesRow : OpenClaim := { program := "ytmfffbafldbihaa", sum := "389d0c255c1cd686d58fff606f06f4f7dae0802c845938859d603210cbad993f", func := "samphire/samphirelaw14.BottomMerges", spec := "bottomMerges", inPlace := ["internal/bytealg.abigen_runtime_cmpstring", "math/bits.Add64", "slices.overlaps[samphire/bottom.Entry]"], unfollowed := true, recurses := true, apart := false }
def BottomMergesSaid : Prop := bottomMergesRow.holds Try.pinned (OpenSpec.ofChange bottomMergesSpec)

/-- ITS FALSE NEIGHBOUR: 'it returns false'. Refute it at one input. -/
def bottomMergesWrong : ChangeSpec := { name := "bottomMerges", fn := fun _ => fun
  | [d1, d2] => { results := [.lit (.bool false)], args := [d1, d2] }
  | _ => none }
def BottomMergesWrongFalsely : Prop := bottomMergesRow.holds Try.pinned (OpenSpec.ofChange bottomMergesWrong)

/-- 'samphirelaw14.BottomFirst': WHATEVER THE INPUT: true; the input reads as it did. -/
def bottomFirstSpec : ChangeSpec := { name := "bottomFirst", fn := fun _ => fun
  | [d1, d2, d3, d4] => { results := [.lit (.bool true)], args := [d1, d2, d3, d4] }
  | _ => none }
def bottomFirstRow : OpenClaim := { program := "ytmfffbafldbihaa", sum := "389d0c255c1cd686d58fff606f06f4f7dae0802c845938859d603210cbad993f", func := "samphire/samphirelaw14.BottomFirst", spec := "bottomFirst", inPlace := ["internal/bytealg.abigen_runtime_cmpstring", "math/bits.Add64", "slices.overlaps[samphire/bottom.Entry]"], unfollowed := true, recurses := true, apart := false }
def BottomFirstSaid : Prop := bottomFirstRow.holds Try.pinned (OpenSpec.ofChange bottomFirstSpec)

/-- ITS FALSE NEIGHBOUR: 'it returns false'. Refute it at one input. -/
def bottomFirstWrong : ChangeSpec := { name := "bottomFirst", fn := fun _ => fun
  | [d1, d2, d3, d4] => { results := [.lit (.bool false)], args := [d1, d2, d3, d4] }
  | _ => none }
def BottomFirstWrongFalsely : Prop := bottomFirstRow.holds Try.pinned (OpenSpec.ofChange bottomFirstWrong)

/-- 'samphirelaw14.BottomCuts': WHATEVER THE INPUT: true; the input reads as it did. -/
def bottomCutsSpec : ChangeSpec := { name := "bottomCuts", fn := fun _ => fun
  | [d1, d2, d3, d4] => { results := [.lit (.bool true)], args := [d1, d2, d3, d4] }
  | _ => none }
def bottomCutsRow : OpenClaim := { program := "ytmfffbafldbihaa", sum := "389d0c255c1cd686d58fff606f06f4f7dae0802c845938859d603210cbad993f", func := "samphire/samphirelaw14.BottomCuts", spec := "bottomCuts", inPlace := ["internal/bytealg.abigen_runtime_cmpstring", "math/bits.Add64", "slices.overlaps[samphire/bottom.Entry]"], unfollowed := true, recurses := true, apart := false }
def BottomCutsSaid : Prop := bottomCutsRow.holds Try.pinned (OpenSpec.ofChange bottomCutsSpec)

/-- ITS FALSE NEIGHBOUR: 'it returns false'. Refute it at one input. -/
def bottomCutsWrong : ChangeSpec := { name := "bottomCuts", fn := fun _ => fun
  | [d1, d2, d3, d4] => { results := [.lit (.bool false)], args := [d1, d2, d3, d4] }
  | _ => none }
def BottomCutsWrongFalsely : Prop := bottomCutsRow.holds Try.pinned (OpenSpec.ofChange bottomCutsWrong)

/-- 'samphirelaw14.BottomTwice': WHATEVER THE INPUT: true; the input reads as it did. -/
def bottomTwiceSpec : ChangeSpec := { name := "bottomTwice", fn := fun _ => fun
  | [d1, d2, d3, d4] => { results := [.lit (.bool true)], args := [d1, d2, d3, d4] }
  | _ => none }
def bottomTwiceRow : OpenClaim := { program := "ytmfffbafldbihaa", sum := "389d0c255c1cd686d58fff606f06f4f7dae0802c845938859d603210cbad993f", func := "samphire/samphirelaw14.BottomTwice", spec := "bottomTwice", inPlace := ["internal/bytealg.abigen_runtime_cmpstring", "math/bits.Add64", "slices.overlaps[samphire/bottom.Entry]"], unfollowed := true, recurses := true, apart := false }
def BottomTwiceSaid : Prop := bottomTwiceRow.holds Try.pinned (OpenSpec.ofChange bottomTwiceSpec)

/-- ITS FALSE NEIGHBOUR: 'it returns false'. Refute it at one input. -/
def bottomTwiceWrong : ChangeSpec := { name := "bottomTwice", fn := fun _ => fun
  | [d1, d2, d3, d4] => { results := [.lit (.bool false)], args := [d1, d2, d3, d4] }
  | _ => none }
def BottomTwiceWrongFalsely : Prop := bottomTwiceRow.holds Try.pinned (OpenSpec.ofChange bottomTwiceWrong)

/-- 'samphirelaw14.BottomLate': WHATEVER THE INPUT: true; the input reads as it did. -/
def bottomLateSpec : ChangeSpec := { name := "bottomLate", fn := fun _ => fun
  | [d1, d2, d3] => { results := [.lit (.bool true)], args := [d1, d2, d3] }
  | _ => none }
def bottomLateRow : OpenClaim := { program := "ytmfffbafldbihaa", sum := "389d0c255c1cd686d58fff606f06f4f7dae0802c845938859d603210cbad993f", func := "samphire/samphirelaw14.BottomLate", spec := "bottomLate", inPlace := ["internal/bytealg.abigen_runtime_cmpstring", "math/bits.Add64", "slices.overlaps[samphire/bottom.Entry]"], unfollowed := true, recurses := true, apart := false }
def BottomLateSaid : Prop := bottomLateRow.holds Try.pinned (OpenSpec.ofChange bottomLateSpec)

/-- ITS FALSE NEIGHBOUR: 'it returns false'. Refute it at one input. -/
def bottomLateWrong : ChangeSpec := { name := "bottomLate", fn := fun _ => fun
  | [d1, d2, d3] => { results := [.lit (.bool false)], args := [d1, d2, d3] }
  | _ => none }
def BottomLateWrongFalsely : Prop := bottomLateRow.holds Try.pinned (OpenSpec.ofChange bottomLateWrong)

/-- 'samphirelaw14.BottomTells': WHATEVER THE INPUT: true; the input reads as it did. -/
def bottomTellsSpec : ChangeSpec := { name := "bottomTells", fn := fun _ => fun
  | [d1, d2, d3, d4] => { results := [.lit (.bool true)], args := [d1, d2, d3, d4] }
  | _ => none }
def bottomTellsRow : OpenClaim := { program := "ytmfffbafldbihaa", sum := "389d0c255c1cd686d58fff606f06f4f7dae0802c845938859d603210cbad993f", func := "samphire/samphirelaw14.BottomTells", spec := "bottomTells", inPlace := ["internal/bytealg.abigen_runtime_cmpstring", "math/bits.Add64", "slices.overlaps[samphire/bottom.Entry]"], unfollowed := true, recurses := true, apart := false }
def BottomTellsSaid : Prop := bottomTellsRow.holds Try.pinned (OpenSpec.ofChange bottomTellsSpec)

/-- ITS FALSE NEIGHBOUR: 'it returns false'. Refute it at one input. -/
def bottomTellsWrong : ChangeSpec := { name := "bottomTells", fn := fun _ => fun
  | [d1, d2, d3, d4] => { results := [.lit (.bool false)], args := [d1, d2, d3, d4] }
  | _ => none }
def BottomTellsWrongFalsely : Prop := bottomTellsRow.holds Try.pinned (OpenSpec.ofChange bottomTellsWrong)

/- THE SECOND FORM. 'bulk': how many values and letters a reading holds, each counted each time it is reached (what is shared counts as often as it is met; a slice's spare places count too). A statement '..UptoSaid' is the law's where the arguments, and the package variables that the reading takes, are together of bulk at most 1048576: NARROWER than '..Said'. Prove '..Said' where nothing that the law and all that it calls make is longer than what came in: it says more and counts as full. Else prove '..UptoSaid'. A law counts once. -/
mutual
def uptoBulk {H : Type} : DataW H → Nat
  | .lit (.string bytes) => bytes.length + 1
  | .lit _ => 1
  | .nil => 1
  | .ptr d => uptoBulk d + 1
  | .slice elems spare => uptoBulkAll elems + uptoBulkAll spare + 1
  | .agg parts => uptoBulkAll parts + 1
  | .iface _ d => uptoBulk d + 1
  | .map entries => uptoBulkEntries entries + 1
  | .held _ => 1
def uptoBulkAll {H : Type} : List (DataW H) → Nat
  | [] => 0
  | d :: r => uptoBulk d + uptoBulkAll r
def uptoBulkEntries {H : Type} : List (Lit × DataW H) → Nat
  | [] => 0
  | x :: r => uptoBulkEntry x + uptoBulkEntries r
def uptoBulkEntry {H : Type} : Lit × DataW H → Nat
  | (.string bytes, d) => bytes.length + uptoBulk d + 1
  | (_, d) => uptoBulk d + 1
 end
def uptoSmall : (H : Type) → List (DataW H) → Bool := fun _ ds => decide (uptoBulkAll ds ≤ 1048576)
def OpenSpec.upto (s : _root_.Go.ChangeSpec) : _root_.Go.OpenSpec := { _root_.Go.OpenSpec.ofChange s with cond := some uptoSmall }

/-- 'samphirelaw14.BottomMerges', WHERE WHAT IT READS IS OF BULK AT MOST 1048576: true; the input reads as it did. -/
def bottomMergesUptoRow : OpenClaim := { program := "ytmfffbafldbihaa", sum := "389d0c255c1cd686d58fff606f06f4f7dae0802c845938859d603210cbad993f", func := "samphire/samphirelaw14.BottomMerges", spec := "bottomMerges", inPlace := ["internal/bytealg.abigen_runtime_cmpstring", "math/bits.Add64", "slices.overlaps[samphire/bottom.Entry]"], unfollowed := true, recurses := true, apart := false, narrowed := true }
def BottomMergesUptoSaid : Prop := bottomMergesUptoRow.holds Try.pinned (OpenSpec.upto bottomMergesSpec)

/-- 'samphirelaw14.BottomFirst', WHERE WHAT IT READS IS OF BULK AT MOST 1048576: true; the input reads as it did. -/
def bottomFirstUptoRow : OpenClaim := { program := "ytmfffbafldbihaa", sum := "389d0c255c1cd686d58fff606f06f4f7dae0802c845938859d603210cbad993f", func := "samphire/samphirelaw14.BottomFirst", spec := "bottomFirst", inPlace := ["internal/bytealg.abigen_runtime_cmpstring", "math/bits.Add64", "slices.overlaps[samphire/bottom.Entry]"], unfollowed := true, recurses := true, apart := false, narrowed := true }
def BottomFirstUptoSaid : Prop := bottomFirstUptoRow.holds Try.pinned (OpenSpec.upto bottomFirstSpec)

/-- 'samphirelaw14.BottomCuts', WHERE WHAT IT READS IS OF BULK AT MOST 1048576: true; the input reads as it did. -/
def bottomCutsUptoRow : OpenClaim := { program := "ytmfffbafldbihaa", sum := "389d0c255c1cd686d58fff606f06f4f7dae0802c845938859d603210cbad993f", func := "samphire/samphirelaw14.BottomCuts", spec := "bottomCuts", inPlace := ["internal/bytealg.abigen_runtime_cmpstring", "math/bits.Add64", "slices.overlaps[samphire/bottom.Entry]"], unfollowed := true, recurses := true, apart := false, narrowed := true }
def BottomCutsUptoSaid : Prop := bottomCutsUptoRow.holds Try.pinned (OpenSpec.upto bottomCutsSpec)

/-- 'samphirelaw14.BottomTwice', WHERE WHAT IT READS IS OF BULK AT MOST 1048576: true; the input reads as it did. -/
def bottomTwiceUptoRow : OpenClaim := { program := "ytmfffbafldbihaa", sum := "389d0c255c1cd686d58fff606f06f4f7dae0802c845938859d603210cbad993f", func := "samphire/samphirelaw14.BottomTwice", spec := "bottomTwice", inPlace := ["internal/bytealg.abigen_runtime_cmpstring", "math/bits.Add64", "slices.overlaps[samphire/bottom.Entry]"], unfollowed := true, recurses := true, apart := false, narrowed := true }
def BottomTwiceUptoSaid : Prop := bottomTwiceUptoRow.holds Try.pinned (OpenSpec.upto bottomTwiceSpec)

/-- 'samphirelaw14.BottomLate', WHERE WHAT IT READS IS OF BULK AT MOST 1048576: true; the input reads as it did. -/
def bottomLateUptoRow : OpenClaim := { program := "ytmfffbafldbihaa", sum := "389d0c255c1cd686d58fff606f06f4f7dae0802c845938859d603210cbad993f", func := "samphire/samphirelaw14.BottomLate", spec := "bottomLate", inPlace := ["internal/bytealg.abigen_runtime_cmpstring", "math/bits.Add64", "slices.overlaps[samphire/bottom.Entry]"], unfollowed := true, recurses := true, apart := false, narrowed := true }
def BottomLateUptoSaid : Prop := bottomLateUptoRow.holds Try.pinned (OpenSpec.upto bottomLateSpec)

/-- 'samphirelaw14.BottomTells', WHERE WHAT IT READS IS OF BULK AT MOST 1048576: true; the input reads as it did. -/
def bottomTellsUptoRow : OpenClaim := { program := "ytmfffbafldbihaa", sum := "389d0c255c1cd686d58fff606f06f4f7dae0802c845938859d603210cbad993f", func := "samphire/samphirelaw14.BottomTells", spec := "bottomTells", inPlace := ["internal/bytealg.abigen_runtime_cmpstring", "math/bits.Add64", "slices.overlaps[samphire/bottom.Entry]"], unfollowed := true, recurses := true, apart := false, narrowed := true }
def BottomTellsUptoSaid : Prop := bottomTellsUptoRow.holds Try.pinned (OpenSpec.upto bottomTellsSpec)

end Rows
end Go.Proofs.Ytmfffbafldbihaa
