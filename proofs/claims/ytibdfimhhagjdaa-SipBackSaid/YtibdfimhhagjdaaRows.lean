/-
  No cell of these rows narrows 'for every input' (looked for: loops, veiled, ifaces, maps, wideKeys, modest, calm, conditions, laid).
  DERIVED. THE GIVEN ROWS OF THIS SEAT. 5 by the template 'for every input the law returns true; each argument reads behind the call as it read before'; 0 by the template 'total and deterministic' (their statements: YtibdfimhhagjdaaTotals.lean).
  GIVEN WITH THE SEED: the statements are not yours to turn. If you find one false, say at which input.
  Laid BY PROGRAM, IN A SANDBOX (cutbox-rows.mjs): the forced cells as the released guide's own fill.sh prints them over the translation bcf6954c7ab9ca15… (all of the seat's roots in one cut). By AI agents, Wed Nov 11 2026. No macro, syntax, notation, axiom, sorry.
-/
import Derived.Test.YtibdfimhhagjdaaChecked
import GoSem.Claim
import GoSem.ClaimJoined
import GoSem.ClaimMapViews
import Derived.JoinedTies
import Derived.KernelRfl
namespace Go.Proofs.Ytibdfimhhagjdaa
/- THE CELL 'sum', in the pinned program and in every row, IS THE sha256 OF THE DUMP (.gsa) THAT YtibdfimhhagjdaaProg.lean LOADS. Nothing in Lean hashes anything: it is a label: what it is worth is what the hold of that sum in a sandbox is worth. -/
noncomputable def Try.pinned : Pinned := { name := "ytibdfimhhagjdaa", sum := "bcf6954c7ab9ca15a2c27f19871caf965ae97c85d0eaac147d0f4a5969b98317", checked := Try.checked }
namespace Rows
def none {H : Type} : Left H := { results := [], args := [] }

/-- 'samphirelaw05.SipTells': WHATEVER THE INPUT: true; the input reads as it did. -/
def sipTellsSpec : ChangeSpec := { name := "sipTells", fn := fun _ => fun
  | [d1, d2] => { results := [.lit (.bool true)], args := [d1, d2] }
  | _ => none }
def sipTellsRow : OpenClaim := { program := "ytibdfimhhagjdaa", sum := "bcf6954c7ab9ca15a2c27f19871caf965ae97c85d0eaac147d0f4a5969b98317", func := "samphire/samphirelaw05.SipTells", spec := "sipTells", apart := false }
def SipTellsSaid : Prop := sipTellsRow.holds Try.pinned (OpenSpec.ofChange sipTellsSpec)

/-- ITS FALSE NEIGHBOUR: 'it returns false'. Refute it at one input. -/
def sipTellsWrong : ChangeSpec := { name := "sipTells", fn := fun _ => fun
  | [d1, d2] => { results := [.lit (.bool false)], args := [d1, d2] }
  | _ => none }
def SipTellsWrongFalsely : Prop := sipTellsRow.holds Try.pinned (OpenSpec.ofChange sipTellsWrong)

/-- 'samphirelaw05.SipParts': WHATEVER THE INPUT: true; the input reads as it did. -/
def sipPartsSpec : ChangeSpec := { name := "sipParts", fn := fun _ => fun
  | [d1, d2] => { results := [.lit (.bool true)], args := [d1, d2] }
  | _ => none }
def sipPartsRow : OpenClaim := { program := "ytibdfimhhagjdaa", sum := "bcf6954c7ab9ca15a2c27f19871caf965ae97c85d0eaac147d0f4a5969b98317", func := "samphire/samphirelaw05.SipParts", spec := "sipParts", apart := false }
def SipPartsSaid : Prop := sipPartsRow.holds Try.pinned (OpenSpec.ofChange sipPartsSpec)

/-- ITS FALSE NEIGHBOUR: 'it returns false'. Refute it at one input. -/
def sipPartsWrong : ChangeSpec := { name := "sipParts", fn := fun _ => fun
  | [d1, d2] => { results := [.lit (.bool false)], args := [d1, d2] }
  | _ => none }
def SipPartsWrongFalsely : Prop := sipPartsRow.holds Try.pinned (OpenSpec.ofChange sipPartsWrong)

/-- 'samphirelaw05.SipRaw': WHATEVER THE INPUT: true; the input reads as it did. -/
def sipRawSpec : ChangeSpec := { name := "sipRaw", fn := fun _ => fun
  | [d1, d2] => { results := [.lit (.bool true)], args := [d1, d2] }
  | _ => none }
def sipRawRow : OpenClaim := { program := "ytibdfimhhagjdaa", sum := "bcf6954c7ab9ca15a2c27f19871caf965ae97c85d0eaac147d0f4a5969b98317", func := "samphire/samphirelaw05.SipRaw", spec := "sipRaw", apart := false }
def SipRawSaid : Prop := sipRawRow.holds Try.pinned (OpenSpec.ofChange sipRawSpec)

/-- ITS FALSE NEIGHBOUR: 'it returns false'. Refute it at one input. -/
def sipRawWrong : ChangeSpec := { name := "sipRaw", fn := fun _ => fun
  | [d1, d2] => { results := [.lit (.bool false)], args := [d1, d2] }
  | _ => none }
def SipRawWrongFalsely : Prop := sipRawRow.holds Try.pinned (OpenSpec.ofChange sipRawWrong)

/-- 'samphirelaw05.SipGoes': WHATEVER THE INPUT: true; the input reads as it did. -/
def sipGoesSpec : ChangeSpec := { name := "sipGoes", fn := fun _ => fun
  | [d1, d2] => { results := [.lit (.bool true)], args := [d1, d2] }
  | _ => none }
def sipGoesRow : OpenClaim := { program := "ytibdfimhhagjdaa", sum := "bcf6954c7ab9ca15a2c27f19871caf965ae97c85d0eaac147d0f4a5969b98317", func := "samphire/samphirelaw05.SipGoes", spec := "sipGoes", apart := false }
def SipGoesSaid : Prop := sipGoesRow.holds Try.pinned (OpenSpec.ofChange sipGoesSpec)

/-- ITS FALSE NEIGHBOUR: 'it returns false'. Refute it at one input. -/
def sipGoesWrong : ChangeSpec := { name := "sipGoes", fn := fun _ => fun
  | [d1, d2] => { results := [.lit (.bool false)], args := [d1, d2] }
  | _ => none }
def SipGoesWrongFalsely : Prop := sipGoesRow.holds Try.pinned (OpenSpec.ofChange sipGoesWrong)

/-- 'samphirelaw05.SipBack': WHATEVER THE INPUT: true; the input reads as it did. -/
def sipBackSpec : ChangeSpec := { name := "sipBack", fn := fun _ => fun
  | [d1, d2, d3] => { results := [.lit (.bool true)], args := [d1, d2, d3] }
  | _ => none }
def sipBackRow : OpenClaim := { program := "ytibdfimhhagjdaa", sum := "bcf6954c7ab9ca15a2c27f19871caf965ae97c85d0eaac147d0f4a5969b98317", func := "samphire/samphirelaw05.SipBack", spec := "sipBack", apart := false }
def SipBackSaid : Prop := sipBackRow.holds Try.pinned (OpenSpec.ofChange sipBackSpec)

/-- ITS FALSE NEIGHBOUR: 'it returns false'. Refute it at one input. -/
def sipBackWrong : ChangeSpec := { name := "sipBack", fn := fun _ => fun
  | [d1, d2, d3] => { results := [.lit (.bool false)], args := [d1, d2, d3] }
  | _ => none }
def SipBackWrongFalsely : Prop := sipBackRow.holds Try.pinned (OpenSpec.ofChange sipBackWrong)

/- THE SECOND FORM. 'bulk': how many values and letters a reading holds, each counted each time it is reached (what is shared counts as often as it is met; a slice's spare places count too). A statement '..UptoSaid' is the law's where the arguments, and the package variables that the reading takes, are together of bulk at most 1048576: NARROWER than '..Said'. Prove '..Said' where nothing that the law and all that it calls make is longer than what came in: it says more and counts as full. Else prove '..UptoSaid'. A law counts once. -/
mutual
def uptoBulk {H : Type} : DataW H → Nat
  | .lit (.string bytes) => bytes.length + 1
  | .lit _ => 1
  | .nil => 1
  | .ptr d => uptoBulk d + 1
  | .slice elems spare => uptoBulkAll elems + uptoBulkAll spare + 1
  | .agg parts => uptoBulkAll parts + 1
  | .iface _ d => uptoBulk d + 1
  | .map entries => uptoBulkEntries entries + 1
  | .held _ => 1
def uptoBulkAll {H : Type} : List (DataW H) → Nat
  | [] => 0
  | d :: r => uptoBulk d + uptoBulkAll r
def uptoBulkEntries {H : Type} : List (Lit × DataW H) → Nat
  | [] => 0
  | x :: r => uptoBulkEntry x + uptoBulkEntries r
def uptoBulkEntry {H : Type} : Lit × DataW H → Nat
  | (.string bytes, d) => bytes.length + uptoBulk d + 1
  | (_, d) => uptoBulk d + 1
 end
def uptoSmall : (H : Type) → List (DataW H) → Bool := fun _ ds => decide (uptoBulkAll ds ≤ 1048576)
def OpenSpec.upto (s : _root_.Go.ChangeSpec) : _root_.Go.OpenSpec := { _root_.Go.OpenSpec.ofChange s with cond := some uptoSmall }

/-- 'samphirelaw05.SipTells', WHERE WHAT IT READS IS OF BULK AT MOST 1048576: true; the input reads as it did. -/
def sipTellsUptoRow : OpenClaim := { program := "ytibdfimhhagjdaa", sum := "bcf6954c7ab9ca15a2c27f19871caf965ae97c85d0eaac147d0f4a5969b98317", func := "samphire/samphirelaw05.SipTells", spec := "sipTells", apart := false, narrowed := true }
def SipTellsUptoSaid : Prop := sipTellsUptoRow.holds Try.pinned (OpenSpec.upto sipTellsSpec)

/-- 'samphirelaw05.SipParts', WHERE WHAT IT READS IS OF BULK AT MOST 1048576: true; the input reads as it did. -/
def sipPartsUptoRow : OpenClaim := { program := "ytibdfimhhagjdaa", sum := "bcf6954c7ab9ca15a2c27f19871caf965ae97c85d0eaac147d0f4a5969b98317", func := "samphire/samphirelaw05.SipParts", spec := "sipParts", apart := false, narrowed := true }
def SipPartsUptoSaid : Prop := sipPartsUptoRow.holds Try.pinned (OpenSpec.upto sipPartsSpec)

/-- 'samphirelaw05.SipRaw', WHERE WHAT IT READS IS OF BULK AT MOST 1048576: true; the input reads as it did. -/
def sipRawUptoRow : OpenClaim := { program := "ytibdfimhhagjdaa", sum := "bcf6954c7ab9ca15a2c27f19871caf965ae97c85d0eaac147d0f4a5969b98317", func := "samphire/samphirelaw05.SipRaw", spec := "sipRaw", apart := false, narrowed := true }
def SipRawUptoSaid : Prop := sipRawUptoRow.holds Try.pinned (OpenSpec.upto sipRawSpec)

/-- 'samphirelaw05.SipGoes', WHERE WHAT IT READS IS OF BULK AT MOST 1048576: true; the input reads as it did. -/
def sipGoesUptoRow : OpenClaim := { program := "ytibdfimhhagjdaa", sum := "bcf6954c7ab9ca15a2c27f19871caf965ae97c85d0eaac147d0f4a5969b98317", func := "samphire/samphirelaw05.SipGoes", spec := "sipGoes", apart := false, narrowed := true }
def SipGoesUptoSaid : Prop := sipGoesUptoRow.holds Try.pinned (OpenSpec.upto sipGoesSpec)

/-- 'samphirelaw05.SipBack', WHERE WHAT IT READS IS OF BULK AT MOST 1048576: true; the input reads as it did. -/
def sipBackUptoRow : OpenClaim := { program := "ytibdfimhhagjdaa", sum := "bcf6954c7ab9ca15a2c27f19871caf965ae97c85d0eaac147d0f4a5969b98317", func := "samphire/samphirelaw05.SipBack", spec := "sipBack", apart := false, narrowed := true }
def SipBackUptoSaid : Prop := sipBackUptoRow.holds Try.pinned (OpenSpec.upto sipBackSpec)

end Rows
end Go.Proofs.Ytibdfimhhagjdaa
