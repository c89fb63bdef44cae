/-
  No cell of these rows narrows 'for every input' (looked for: loops, veiled, ifaces, maps, wideKeys, modest, calm, conditions, laid).
  DERIVED. THE GIVEN ROWS OF THIS SEAT. 5 by the template 'for every input the law returns true; each argument reads behind the call as it read before'; 0 by the template 'total and deterministic' (their statements: YtnpipaehcklnbaaTotals.lean).
  GIVEN WITH THE SEED: the statements are not yours to turn. If you find one false, say at which input.
  Laid BY PROGRAM, IN A SANDBOX (cutbox-rows.mjs): the forced cells as the released guide's own fill.sh prints them over the translation 2602734becfc4c6d… (all of the seat's roots in one cut). By AI agents, Wed Nov 11 2026. No macro, syntax, notation, axiom, sorry.
-/
import Derived.Test.YtnpipaehcklnbaaChecked
import GoSem.Claim
import GoSem.ClaimJoined
import GoSem.ClaimMapViews
import Derived.JoinedTies
import Derived.KernelRfl
namespace Go.Proofs.Ytnpipaehcklnbaa
/- THE CELL 'sum', in the pinned program and in every row, IS THE sha256 OF THE DUMP (.gsa) THAT YtnpipaehcklnbaaProg.lean LOADS. Nothing in Lean hashes anything: it is a label: what it is worth is what the hold of that sum in a sandbox is worth. -/
noncomputable def Try.pinned : Pinned := { name := "ytnpipaehcklnbaa", sum := "2602734becfc4c6debdd5f3a92ab54637f04db61e0c3ca060861e5ce26bee672", checked := Try.checked }
namespace Rows
def none {H : Type} : Left H := { results := [], args := [] }

/-- 'samphirelaw19.ChooseTells': WHATEVER THE INPUT: true; the input reads as it did. -/
def chooseTellsSpec : ChangeSpec := { name := "chooseTells", fn := fun _ => fun
  | [d1, d2] => { results := [.lit (.bool true)], args := [d1, d2] }
  | _ => none }
def chooseTellsRow : OpenClaim := { program := "ytnpipaehcklnbaa", sum := "2602734becfc4c6debdd5f3a92ab54637f04db61e0c3ca060861e5ce26bee672", func := "samphire/samphirelaw19.ChooseTells", spec := "chooseTells", unfollowed := true, recurses := true, apart := false }
def ChooseTellsSaid : Prop := chooseTellsRow.holds Try.pinned (OpenSpec.ofChange chooseTellsSpec)

/-- ITS FALSE NEIGHBOUR: 'it returns false'. Refute it at one input. -/
def chooseTellsWrong : ChangeSpec := { name := "chooseTells", fn := fun _ => fun
  | [d1, d2] => { results := [.lit (.bool false)], args := [d1, d2] }
  | _ => none }
def ChooseTellsWrongFalsely : Prop := chooseTellsRow.holds Try.pinned (OpenSpec.ofChange chooseTellsWrong)

/-- 'samphirelaw19.ChooseBoth': WHATEVER THE INPUT: true; the input reads as it did. -/
def chooseBothSpec : ChangeSpec := { name := "chooseBoth", fn := fun _ => fun
  | [d1, d2, d3] => { results := [.lit (.bool true)], args := [d1, d2, d3] }
  | _ => none }
def chooseBothRow : OpenClaim := { program := "ytnpipaehcklnbaa", sum := "2602734becfc4c6debdd5f3a92ab54637f04db61e0c3ca060861e5ce26bee672", func := "samphire/samphirelaw19.ChooseBoth", spec := "chooseBoth", unfollowed := true, recurses := true, apart := false }
def ChooseBothSaid : Prop := chooseBothRow.holds Try.pinned (OpenSpec.ofChange chooseBothSpec)

/-- ITS FALSE NEIGHBOUR: 'it returns false'. Refute it at one input. -/
def chooseBothWrong : ChangeSpec := { name := "chooseBoth", fn := fun _ => fun
  | [d1, d2, d3] => { results := [.lit (.bool false)], args := [d1, d2, d3] }
  | _ => none }
def ChooseBothWrongFalsely : Prop := chooseBothRow.holds Try.pinned (OpenSpec.ofChange chooseBothWrong)

/-- 'samphirelaw19.ChooseParts': WHATEVER THE INPUT: true; the input reads as it did. -/
def choosePartsSpec : ChangeSpec := { name := "chooseParts", fn := fun _ => fun
  | [d1, d2, d3] => { results := [.lit (.bool true)], args := [d1, d2, d3] }
  | _ => none }
def choosePartsRow : OpenClaim := { program := "ytnpipaehcklnbaa", sum := "2602734becfc4c6debdd5f3a92ab54637f04db61e0c3ca060861e5ce26bee672", func := "samphire/samphirelaw19.ChooseParts", spec := "chooseParts", unfollowed := true, recurses := true, apart := false }
def ChoosePartsSaid : Prop := choosePartsRow.holds Try.pinned (OpenSpec.ofChange choosePartsSpec)

/-- ITS FALSE NEIGHBOUR: 'it returns false'. Refute it at one input. -/
def choosePartsWrong : ChangeSpec := { name := "chooseParts", fn := fun _ => fun
  | [d1, d2, d3] => { results := [.lit (.bool false)], args := [d1, d2, d3] }
  | _ => none }
def ChoosePartsWrongFalsely : Prop := choosePartsRow.holds Try.pinned (OpenSpec.ofChange choosePartsWrong)

/-- 'samphirelaw19.ChooseTurned': WHATEVER THE INPUT: true; the input reads as it did. -/
def chooseTurnedSpec : ChangeSpec := { name := "chooseTurned", fn := fun _ => fun
  | [d1, d2, d3] => { results := [.lit (.bool true)], args := [d1, d2, d3] }
  | _ => none }
def chooseTurnedRow : OpenClaim := { program := "ytnpipaehcklnbaa", sum := "2602734becfc4c6debdd5f3a92ab54637f04db61e0c3ca060861e5ce26bee672", func := "samphire/samphirelaw19.ChooseTurned", spec := "chooseTurned", unfollowed := true, recurses := true, apart := false }
def ChooseTurnedSaid : Prop := chooseTurnedRow.holds Try.pinned (OpenSpec.ofChange chooseTurnedSpec)

/-- ITS FALSE NEIGHBOUR: 'it returns false'. Refute it at one input. -/
def chooseTurnedWrong : ChangeSpec := { name := "chooseTurned", fn := fun _ => fun
  | [d1, d2, d3] => { results := [.lit (.bool false)], args := [d1, d2, d3] }
  | _ => none }
def ChooseTurnedWrongFalsely : Prop := chooseTurnedRow.holds Try.pinned (OpenSpec.ofChange chooseTurnedWrong)

/-- 'samphirelaw19.ChooseRange': WHATEVER THE INPUT: true; the input reads as it did. -/
def chooseRangeSpec : ChangeSpec := { name := "chooseRange", fn := fun _ => fun
  | [d1, d2, d3] => { results := [.lit (.bool true)], args := [d1, d2, d3] }
  | _ => none }
def chooseRangeRow : OpenClaim := { program := "ytnpipaehcklnbaa", sum := "2602734becfc4c6debdd5f3a92ab54637f04db61e0c3ca060861e5ce26bee672", func := "samphire/samphirelaw19.ChooseRange", spec := "chooseRange", unfollowed := true, recurses := true, apart := false }
def ChooseRangeSaid : Prop := chooseRangeRow.holds Try.pinned (OpenSpec.ofChange chooseRangeSpec)

/-- ITS FALSE NEIGHBOUR: 'it returns false'. Refute it at one input. -/
def chooseRangeWrong : ChangeSpec := { name := "chooseRange", fn := fun _ => fun
  | [d1, d2, d3] => { results := [.lit (.bool false)], args := [d1, d2, d3] }
  | _ => none }
def ChooseRangeWrongFalsely : Prop := chooseRangeRow.holds Try.pinned (OpenSpec.ofChange chooseRangeWrong)

/- THE SECOND FORM. 'bulk': how many values and letters a reading holds, each counted each time it is reached (what is shared counts as often as it is met; a slice's spare places count too). A statement '..UptoSaid' is the law's where the arguments, and the package variables that the reading takes, are together of bulk at most 1048576: NARROWER than '..Said'. Prove '..Said' where nothing that the law and all that it calls make is longer than what came in: it says more and counts as full. Else prove '..UptoSaid'. A law counts once. -/
mutual
def uptoBulk {H : Type} : DataW H → Nat
  | .lit (.string bytes) => bytes.length + 1
  | .lit _ => 1
  | .nil => 1
  | .ptr d => uptoBulk d + 1
  | .slice elems spare => uptoBulkAll elems + uptoBulkAll spare + 1
  | .agg parts => uptoBulkAll parts + 1
  | .iface _ d => uptoBulk d + 1
  | .map entries => uptoBulkEntries entries + 1
  | .held _ => 1
def uptoBulkAll {H : Type} : List (DataW H) → Nat
  | [] => 0
  | d :: r => uptoBulk d + uptoBulkAll r
def uptoBulkEntries {H : Type} : List (Lit × DataW H) → Nat
  | [] => 0
  | x :: r => uptoBulkEntry x + uptoBulkEntries r
def uptoBulkEntry {H : Type} : Lit × DataW H → Nat
  | (.string bytes, d) => bytes.length + uptoBulk d + 1
  | (_, d) => uptoBulk d + 1
 end
def uptoSmall : (H : Type) → List (DataW H) → Bool := fun _ ds => decide (uptoBulkAll ds ≤ 1048576)
def OpenSpec.upto (s : _root_.Go.ChangeSpec) : _root_.Go.OpenSpec := { _root_.Go.OpenSpec.ofChange s with cond := some uptoSmall }

/-- 'samphirelaw19.ChooseTells', WHERE WHAT IT READS IS OF BULK AT MOST 1048576: true; the input reads as it did. -/
def chooseTellsUptoRow : OpenClaim := { program := "ytnpipaehcklnbaa", sum := "2602734becfc4c6debdd5f3a92ab54637f04db61e0c3ca060861e5ce26bee672", func := "samphire/samphirelaw19.ChooseTells", spec := "chooseTells", unfollowed := true, recurses := true, apart := false, narrowed := true }
def ChooseTellsUptoSaid : Prop := chooseTellsUptoRow.holds Try.pinned (OpenSpec.upto chooseTellsSpec)

/-- 'samphirelaw19.ChooseBoth', WHERE WHAT IT READS IS OF BULK AT MOST 1048576: true; the input reads as it did. -/
def chooseBothUptoRow : OpenClaim := { program := "ytnpipaehcklnbaa", sum := "2602734becfc4c6debdd5f3a92ab54637f04db61e0c3ca060861e5ce26bee672", func := "samphire/samphirelaw19.ChooseBoth", spec := "chooseBoth", unfollowed := true, recurses := true, apart := false, narrowed := true }
def ChooseBothUptoSaid : Prop := chooseBothUptoRow.holds Try.pinned (OpenSpec.upto chooseBothSpec)

/-- 'samphirelaw19.ChooseParts', WHERE WHAT IT READS IS OF BULK AT MOST 1048576: true; the input reads as it did. -/
def choosePartsUptoRow : OpenClaim := { program := "ytnpipaehcklnbaa", sum := "2602734becfc4c6debdd5f3a92ab54637f04db61e0c3ca060861e5ce26bee672", func := "samphire/samphirelaw19.ChooseParts", spec := "chooseParts", unfollowed := true, recurses := true, apart := false, narrowed := true }
def ChoosePartsUptoSaid : Prop := choosePartsUptoRow.holds Try.pinned (OpenSpec.upto choosePartsSpec)

/-- 'samphirelaw19.ChooseTurned', WHERE WHAT IT READS IS OF BULK AT MOST 1048576: true; the input reads as it did. -/
def chooseTurnedUptoRow : OpenClaim := { program := "ytnpipaehcklnbaa", sum := "2602734becfc4c6debdd5f3a92ab54637f04db61e0c3ca060861e5ce26bee672", func := "samphire/samphirelaw19.ChooseTurned", spec := "chooseTurned", unfollowed := true, recurses := true, apart := false, narrowed := true }
def ChooseTurnedUptoSaid : Prop := chooseTurnedUptoRow.holds Try.pinned (OpenSpec.upto chooseTurnedSpec)

/-- 'samphirelaw19.ChooseRange', WHERE WHAT IT READS IS OF BULK AT MOST 1048576: true; the input reads as it did. -/
def chooseRangeUptoRow : OpenClaim := { program := "ytnpipaehcklnbaa", sum := "2602734becfc4c6debdd5f3a92ab54637f04db61e0c3ca060861e5ce26bee672", func := "samphire/samphirelaw19.ChooseRange", spec := "chooseRange", unfollowed := true, recurses := true, apart := false, narrowed := true }
def ChooseRangeUptoSaid : Prop := chooseRangeUptoRow.holds Try.pinned (OpenSpec.upto chooseRangeSpec)

end Rows
end Go.Proofs.Ytnpipaehcklnbaa
