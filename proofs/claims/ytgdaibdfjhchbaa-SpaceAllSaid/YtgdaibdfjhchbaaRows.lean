/-
  No cell of these rows narrows 'for every input' (looked for: loops, veiled, ifaces, maps, wideKeys, modest, calm, conditions, laid).
  DERIVED. THE GIVEN ROWS OF THIS SEAT. 7 by the template 'for every input the law returns true; each argument reads behind the call as it read before'; 0 by the template 'total and deterministic' (their statements: YtgdaibdfjhchbaaTotals.lean).
  GIVEN WITH THE SEED: the statements are not yours to turn. If you find one false, say at which input.
  Laid BY PROGRAM, IN A SANDBOX (cutbox-rows.mjs): the forced cells as the released guide's own fill.sh prints them over the translation 8f241cae7c8ea1ea… (all of the seat's roots in one cut). By AI agents, Wed Nov 11 2026. No macro, syntax, notation, axiom, sorry.
-/
import Derived.Test.YtgdaibdfjhchbaaChecked
import GoSem.Claim
import GoSem.ClaimJoined
import GoSem.ClaimMapViews
import Derived.JoinedTies
import Derived.KernelRfl
namespace Go.Proofs.Ytgdaibdfjhchbaa
/- THE CELL 'sum', in the pinned program and in every row, IS THE sha256 OF THE DUMP (.gsa) THAT YtgdaibdfjhchbaaProg.lean LOADS. Nothing in Lean hashes anything: it is a label: what it is worth is what the hold of that sum in a sandbox is worth. -/
noncomputable def Try.pinned : Pinned := { name := "ytgdaibdfjhchbaa", sum := "8f241cae7c8ea1ea98283dd3fc4d625de1377a0583b590ef5568fc456bcacb3a", checked := Try.checked }
namespace Rows
def none {H : Type} : Left H := { results := [], args := [] }

/-- 'palimplaw10.SpaceAll': WHATEVER THE INPUT: true; the input reads as it did. -/
def spaceAllSpec : ChangeSpec := { name := "spaceAll", fn := fun _ => fun
  | [d1, d2, d3, d4, d5, d6, d7] => { results := [.lit (.bool true)], args := [d1, d2, d3, d4, d5, d6, d7] }
  | _ => none }
def spaceAllRow : OpenClaim := { program := "ytgdaibdfjhchbaa", sum := "8f241cae7c8ea1ea98283dd3fc4d625de1377a0583b590ef5568fc456bcacb3a", func := "palimp/palimplaw10.SpaceAll", spec := "spaceAll", unfollowed := true, recurses := true, apart := false }
def SpaceAllSaid : Prop := spaceAllRow.holds Try.pinned (OpenSpec.ofChange spaceAllSpec)

/-- ITS FALSE NEIGHBOUR: 'it returns false'. Refute it at one input. -/
def spaceAllWrong : ChangeSpec := { name := "spaceAll", fn := fun _ => fun
  | [d1, d2, d3, d4, d5, d6, d7] => { results := [.lit (.bool false)], args := [d1, d2, d3, d4, d5, d6, d7] }
  | _ => none }
def SpaceAllWrongFalsely : Prop := spaceAllRow.holds Try.pinned (OpenSpec.ofChange spaceAllWrong)

/-- 'palimplaw10.SpaceSplits': WHATEVER THE INPUT: true; the input reads as it did. -/
def spaceSplitsSpec : ChangeSpec := { name := "spaceSplits", fn := fun _ => fun
  | [d1, d2, d3, d4, d5] => { results := [.lit (.bool true)], args := [d1, d2, d3, d4, d5] }
  | _ => none }
def spaceSplitsRow : OpenClaim := { program := "ytgdaibdfjhchbaa", sum := "8f241cae7c8ea1ea98283dd3fc4d625de1377a0583b590ef5568fc456bcacb3a", func := "palimp/palimplaw10.SpaceSplits", spec := "spaceSplits", unfollowed := true, recurses := true, apart := false }
def SpaceSplitsSaid : Prop := spaceSplitsRow.holds Try.pinned (OpenSpec.ofChange spaceSplitsSpec)

/-- ITS FALSE NEIGHBOUR: 'it returns false'. Refute it at one input. -/
def spaceSplitsWrong : ChangeSpec := { name := "spaceSplits", fn := fun _ => fun
  | [d1, d2, d3, d4, d5] => { results := [.lit (.bool false)], args := [d1, d2, d3, d4, d5] }
  | _ => none }
def SpaceSplitsWrongFalsely : Prop := spaceSplitsRow.holds Try.pinned (OpenSpec.ofChange spaceSplitsWrong)

/-- 'palimplaw10.SpaceTurns': WHATEVER THE INPUT: true; the input reads as it did. -/
def spaceTurnsSpec : ChangeSpec := { name := "spaceTurns", fn := fun _ => fun
  | [d1, d2, d3, d4, d5, d6, d7] => { results := [.lit (.bool true)], args := [d1, d2, d3, d4, d5, d6, d7] }
  | _ => none }
def spaceTurnsRow : OpenClaim := { program := "ytgdaibdfjhchbaa", sum := "8f241cae7c8ea1ea98283dd3fc4d625de1377a0583b590ef5568fc456bcacb3a", func := "palimp/palimplaw10.SpaceTurns", spec := "spaceTurns", unfollowed := true, recurses := true, apart := false }
def SpaceTurnsSaid : Prop := spaceTurnsRow.holds Try.pinned (OpenSpec.ofChange spaceTurnsSpec)

/-- ITS FALSE NEIGHBOUR: 'it returns false'. Refute it at one input. -/
def spaceTurnsWrong : ChangeSpec := { name := "spaceTurns", fn := fun _ => fun
  | [d1, d2, d3, d4, d5, d6, d7] => { results := [.lit (.bool false)], args := [d1, d2, d3, d4, d5, d6, d7] }
  | _ => none }
def SpaceTurnsWrongFalsely : Prop := spaceTurnsRow.holds Try.pinned (OpenSpec.ofChange spaceTurnsWrong)

/-- 'palimplaw10.SpaceGrows': WHATEVER THE INPUT: true; the input reads as it did. -/
def spaceGrowsSpec : ChangeSpec := { name := "spaceGrows", fn := fun _ => fun
  | [d1, d2, d3, d4, d5, d6] => { results := [.lit (.bool true)], args := [d1, d2, d3, d4, d5, d6] }
  | _ => none }
def spaceGrowsRow : OpenClaim := { program := "ytgdaibdfjhchbaa", sum := "8f241cae7c8ea1ea98283dd3fc4d625de1377a0583b590ef5568fc456bcacb3a", func := "palimp/palimplaw10.SpaceGrows", spec := "spaceGrows", unfollowed := true, recurses := true, apart := false }
def SpaceGrowsSaid : Prop := spaceGrowsRow.holds Try.pinned (OpenSpec.ofChange spaceGrowsSpec)

/-- ITS FALSE NEIGHBOUR: 'it returns false'. Refute it at one input. -/
def spaceGrowsWrong : ChangeSpec := { name := "spaceGrows", fn := fun _ => fun
  | [d1, d2, d3, d4, d5, d6] => { results := [.lit (.bool false)], args := [d1, d2, d3, d4, d5, d6] }
  | _ => none }
def SpaceGrowsWrongFalsely : Prop := spaceGrowsRow.holds Try.pinned (OpenSpec.ofChange spaceGrowsWrong)

/-- 'palimplaw10.SpaceKept': WHATEVER THE INPUT: true; the input reads as it did. -/
def spaceKeptSpec : ChangeSpec := { name := "spaceKept", fn := fun _ => fun
  | [d1, d2, d3, d4, d5, d6, d7] => { results := [.lit (.bool true)], args := [d1, d2, d3, d4, d5, d6, d7] }
  | _ => none }
def spaceKeptRow : OpenClaim := { program := "ytgdaibdfjhchbaa", sum := "8f241cae7c8ea1ea98283dd3fc4d625de1377a0583b590ef5568fc456bcacb3a", func := "palimp/palimplaw10.SpaceKept", spec := "spaceKept", unfollowed := true, recurses := true, apart := false }
def SpaceKeptSaid : Prop := spaceKeptRow.holds Try.pinned (OpenSpec.ofChange spaceKeptSpec)

/-- ITS FALSE NEIGHBOUR: 'it returns false'. Refute it at one input. -/
def spaceKeptWrong : ChangeSpec := { name := "spaceKept", fn := fun _ => fun
  | [d1, d2, d3, d4, d5, d6, d7] => { results := [.lit (.bool false)], args := [d1, d2, d3, d4, d5, d6, d7] }
  | _ => none }
def SpaceKeptWrongFalsely : Prop := spaceKeptRow.holds Try.pinned (OpenSpec.ofChange spaceKeptWrong)

/-- 'palimplaw10.SpaceStill': WHATEVER THE INPUT: true; the input reads as it did. -/
def spaceStillSpec : ChangeSpec := { name := "spaceStill", fn := fun _ => fun
  | [d1, d2, d3, d4, d5] => { results := [.lit (.bool true)], args := [d1, d2, d3, d4, d5] }
  | _ => none }
def spaceStillRow : OpenClaim := { program := "ytgdaibdfjhchbaa", sum := "8f241cae7c8ea1ea98283dd3fc4d625de1377a0583b590ef5568fc456bcacb3a", func := "palimp/palimplaw10.SpaceStill", spec := "spaceStill", unfollowed := true, recurses := true, apart := false }
def SpaceStillSaid : Prop := spaceStillRow.holds Try.pinned (OpenSpec.ofChange spaceStillSpec)

/-- ITS FALSE NEIGHBOUR: 'it returns false'. Refute it at one input. -/
def spaceStillWrong : ChangeSpec := { name := "spaceStill", fn := fun _ => fun
  | [d1, d2, d3, d4, d5] => { results := [.lit (.bool false)], args := [d1, d2, d3, d4, d5] }
  | _ => none }
def SpaceStillWrongFalsely : Prop := spaceStillRow.holds Try.pinned (OpenSpec.ofChange spaceStillWrong)

/-- 'palimplaw10.SpaceForms': WHATEVER THE INPUT: true; the input reads as it did. -/
def spaceFormsSpec : ChangeSpec := { name := "spaceForms", fn := fun _ => fun
  | [] => { results := [.lit (.bool true)], args := [] }
  | _ => none }
def spaceFormsRow : OpenClaim := { program := "ytgdaibdfjhchbaa", sum := "8f241cae7c8ea1ea98283dd3fc4d625de1377a0583b590ef5568fc456bcacb3a", func := "palimp/palimplaw10.SpaceForms", spec := "spaceForms", unfollowed := true, recurses := true, apart := false }
def SpaceFormsSaid : Prop := spaceFormsRow.holds Try.pinned (OpenSpec.ofChange spaceFormsSpec)

/-- ITS FALSE NEIGHBOUR: 'it returns false'. Refute it at one input. -/
def spaceFormsWrong : ChangeSpec := { name := "spaceForms", fn := fun _ => fun
  | [] => { results := [.lit (.bool false)], args := [] }
  | _ => none }
def SpaceFormsWrongFalsely : Prop := spaceFormsRow.holds Try.pinned (OpenSpec.ofChange spaceFormsWrong)

/- THE SECOND FORM. 'bulk': how many values and letters a reading holds, each counted each time it is reached (what is shared counts as often as it is met; a slice's spare places count too). A statement '..UptoSaid' is the law's where the arguments, and the package variables that the reading takes, are together of bulk at most 1048576: NARROWER than '..Said'. Prove '..Said' where nothing that the law and all that it calls make is longer than what came in: it says more and counts as full. Else prove '..UptoSaid'. A law counts once. -/
mutual
def uptoBulk {H : Type} : DataW H → Nat
  | .lit (.string bytes) => bytes.length + 1
  | .lit _ => 1
  | .nil => 1
  | .ptr d => uptoBulk d + 1
  | .slice elems spare => uptoBulkAll elems + uptoBulkAll spare + 1
  | .agg parts => uptoBulkAll parts + 1
  | .iface _ d => uptoBulk d + 1
  | .map entries => uptoBulkEntries entries + 1
  | .held _ => 1
def uptoBulkAll {H : Type} : List (DataW H) → Nat
  | [] => 0
  | d :: r => uptoBulk d + uptoBulkAll r
def uptoBulkEntries {H : Type} : List (Lit × DataW H) → Nat
  | [] => 0
  | x :: r => uptoBulkEntry x + uptoBulkEntries r
def uptoBulkEntry {H : Type} : Lit × DataW H → Nat
  | (.string bytes, d) => bytes.length + uptoBulk d + 1
  | (_, d) => uptoBulk d + 1
 end
def uptoSmall : (H : Type) → List (DataW H) → Bool := fun _ ds => decide (uptoBulkAll ds ≤ 1048576)
def OpenSpec.upto (s : _root_.Go.ChangeSpec) : _root_.Go.OpenSpec := { _root_.Go.OpenSpec.ofChange s with cond := some uptoSmall }

/-- 'palimplaw10.SpaceAll', WHERE WHAT IT READS IS OF BULK AT MOST 1048576: true; the input reads as it did. -/
def spaceAllUptoRow : OpenClaim := { program := "ytgdaibdfjhchbaa", sum := "8f241cae7c8ea1ea98283dd3fc4d625de1377a0583b590ef5568fc456bcacb3a", func := "palimp/palimplaw10.SpaceAll", spec := "spaceAll", unfollowed := true, recurses := true, apart := false, narrowed := true }
def SpaceAllUptoSaid : Prop := spaceAllUptoRow.holds Try.pinned (OpenSpec.upto spaceAllSpec)

/-- 'palimplaw10.SpaceSplits', WHERE WHAT IT READS IS OF BULK AT MOST 1048576: true; the input reads as it did. -/
def spaceSplitsUptoRow : OpenClaim := { program := "ytgdaibdfjhchbaa", sum := "8f241cae7c8ea1ea98283dd3fc4d625de1377a0583b590ef5568fc456bcacb3a", func := "palimp/palimplaw10.SpaceSplits", spec := "spaceSplits", unfollowed := true, recurses := true, apart := false, narrowed := true }
def SpaceSplitsUptoSaid : Prop := spaceSplitsUptoRow.holds Try.pinned (OpenSpec.upto spaceSplitsSpec)

/-- 'palimplaw10.SpaceTurns', WHERE WHAT IT READS IS OF BULK AT MOST 1048576: true; the input reads as it did. -/
def spaceTurnsUptoRow : OpenClaim := { program := "ytgdaibdfjhchbaa", sum := "8f241cae7c8ea1ea98283dd3fc4d625de1377a0583b590ef5568fc456bcacb3a", func := "palimp/palimplaw10.SpaceTurns", spec := "spaceTurns", unfollowed := true, recurses := true, apart := false, narrowed := true }
def SpaceTurnsUptoSaid : Prop := spaceTurnsUptoRow.holds Try.pinned (OpenSpec.upto spaceTurnsSpec)

/-- 'palimplaw10.SpaceGrows', WHERE WHAT IT READS IS OF BULK AT MOST 1048576: true; the input reads as it did. -/
def spaceGrowsUptoRow : OpenClaim := { program := "ytgdaibdfjhchbaa", sum := "8f241cae7c8ea1ea98283dd3fc4d625de1377a0583b590ef5568fc456bcacb3a", func := "palimp/palimplaw10.SpaceGrows", spec := "spaceGrows", unfollowed := true, recurses := true, apart := false, narrowed := true }
def SpaceGrowsUptoSaid : Prop := spaceGrowsUptoRow.holds Try.pinned (OpenSpec.upto spaceGrowsSpec)

/-- 'palimplaw10.SpaceKept', WHERE WHAT IT READS IS OF BULK AT MOST 1048576: true; the input reads as it did. -/
def spaceKeptUptoRow : OpenClaim := { program := "ytgdaibdfjhchbaa", sum := "8f241cae7c8ea1ea98283dd3fc4d625de1377a0583b590ef5568fc456bcacb3a", func := "palimp/palimplaw10.SpaceKept", spec := "spaceKept", unfollowed := true, recurses := true, apart := false, narrowed := true }
def SpaceKeptUptoSaid : Prop := spaceKeptUptoRow.holds Try.pinned (OpenSpec.upto spaceKeptSpec)

/-- 'palimplaw10.SpaceStill', WHERE WHAT IT READS IS OF BULK AT MOST 1048576: true; the input reads as it did. -/
def spaceStillUptoRow : OpenClaim := { program := "ytgdaibdfjhchbaa", sum := "8f241cae7c8ea1ea98283dd3fc4d625de1377a0583b590ef5568fc456bcacb3a", func := "palimp/palimplaw10.SpaceStill", spec := "spaceStill", unfollowed := true, recurses := true, apart := false, narrowed := true }
def SpaceStillUptoSaid : Prop := spaceStillUptoRow.holds Try.pinned (OpenSpec.upto spaceStillSpec)

/-- 'palimplaw10.SpaceForms', WHERE WHAT IT READS IS OF BULK AT MOST 1048576: true; the input reads as it did. -/
def spaceFormsUptoRow : OpenClaim := { program := "ytgdaibdfjhchbaa", sum := "8f241cae7c8ea1ea98283dd3fc4d625de1377a0583b590ef5568fc456bcacb3a", func := "palimp/palimplaw10.SpaceForms", spec := "spaceForms", unfollowed := true, recurses := true, apart := false, narrowed := true }
def SpaceFormsUptoSaid : Prop := spaceFormsUptoRow.holds Try.pinned (OpenSpec.upto spaceFormsSpec)

end Rows
end Go.Proofs.Ytgdaibdfjhchbaa
