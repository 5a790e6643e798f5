/-
  No cell of these rows narrows 'for every input' (looked for: loops, veiled, ifaces, maps, wideKeys, modest, calm, conditions, laid).
  DERIVED. THE GIVEN ROWS OF THIS SEAT. 6 by the template 'for every input the law returns true; each argument reads behind the call as it read before'; 0 by the template 'total and deterministic' (their statements: YtofcmdkmhbbbjaaTotals.lean).
  GIVEN WITH THE SEED: the statements are not yours to turn. If you find one false, say at which input.
  Laid BY PROGRAM, IN A SANDBOX (cutbox-rows.mjs): the forced cells as the released guide's own fill.sh prints them over the translation 58015d84e3f7aa8f… (all of the seat's roots in one cut). By AI agents, Wed Nov 11 2026. No macro, syntax, notation, axiom, sorry.
-/
import Derived.Test.YtofcmdkmhbbbjaaChecked
import GoSem.Claim
import GoSem.ClaimJoined
import GoSem.ClaimMapViews
import Derived.JoinedTies
import Derived.KernelRfl
namespace Go.Proofs.Ytofcmdkmhbbbjaa
/- THE CELL 'sum', in the pinned program and in every row, IS THE sha256 OF THE DUMP (.gsa) THAT YtofcmdkmhbbbjaaProg.lean LOADS. Nothing in Lean hashes anything: it is a label: what it is worth is what the hold of that sum in a sandbox is worth. -/
noncomputable def Try.pinned : Pinned := { name := "ytofcmdkmhbbbjaa", sum := "58015d84e3f7aa8f359fe3ae8b4b60dfefe0e1e1ce4b65e8f86c870da0a69f35", checked := Try.checked }
namespace Rows
def none {H : Type} : Left H := { results := [], args := [] }

/-- 'palimplaw17.TableAll': WHATEVER THE INPUT: true; the input reads as it did. -/
def tableAllSpec : ChangeSpec := { name := "tableAll", fn := fun _ => fun
  | [d1, d2, d3, d4, d5, d6, d7, d8, d9] => { results := [.lit (.bool true)], args := [d1, d2, d3, d4, d5, d6, d7, d8, d9] }
  | _ => none }
def tableAllRow : OpenClaim := { program := "ytofcmdkmhbbbjaa", sum := "58015d84e3f7aa8f359fe3ae8b4b60dfefe0e1e1ce4b65e8f86c870da0a69f35", func := "palimp/palimplaw17.TableAll", spec := "tableAll", unfollowed := true, recurses := true, apart := false }
def TableAllSaid : Prop := tableAllRow.holds Try.pinned (OpenSpec.ofChange tableAllSpec)

/-- ITS FALSE NEIGHBOUR: 'it returns false'. Refute it at one input. -/
def tableAllWrong : ChangeSpec := { name := "tableAll", fn := fun _ => fun
  | [d1, d2, d3, d4, d5, d6, d7, d8, d9] => { results := [.lit (.bool false)], args := [d1, d2, d3, d4, d5, d6, d7, d8, d9] }
  | _ => none }
def TableAllWrongFalsely : Prop := tableAllRow.holds Try.pinned (OpenSpec.ofChange tableAllWrong)

/-- 'palimplaw17.TableSpace': WHATEVER THE INPUT: true; the input reads as it did. -/
def tableSpaceSpec : ChangeSpec := { name := "tableSpace", fn := fun _ => fun
  | [d1, d2, d3, d4, d5, d6, d7, d8, d9] => { results := [.lit (.bool true)], args := [d1, d2, d3, d4, d5, d6, d7, d8, d9] }
  | _ => none }
def tableSpaceRow : OpenClaim := { program := "ytofcmdkmhbbbjaa", sum := "58015d84e3f7aa8f359fe3ae8b4b60dfefe0e1e1ce4b65e8f86c870da0a69f35", func := "palimp/palimplaw17.TableSpace", spec := "tableSpace", unfollowed := true, recurses := true, apart := false }
def TableSpaceSaid : Prop := tableSpaceRow.holds Try.pinned (OpenSpec.ofChange tableSpaceSpec)

/-- ITS FALSE NEIGHBOUR: 'it returns false'. Refute it at one input. -/
def tableSpaceWrong : ChangeSpec := { name := "tableSpace", fn := fun _ => fun
  | [d1, d2, d3, d4, d5, d6, d7, d8, d9] => { results := [.lit (.bool false)], args := [d1, d2, d3, d4, d5, d6, d7, d8, d9] }
  | _ => none }
def TableSpaceWrongFalsely : Prop := tableSpaceRow.holds Try.pinned (OpenSpec.ofChange tableSpaceWrong)

/-- 'palimplaw17.TableBack': WHATEVER THE INPUT: true; the input reads as it did. -/
def tableBackSpec : ChangeSpec := { name := "tableBack", fn := fun _ => fun
  | [d1, d2, d3, d4, d5] => { results := [.lit (.bool true)], args := [d1, d2, d3, d4, d5] }
  | _ => none }
def tableBackRow : OpenClaim := { program := "ytofcmdkmhbbbjaa", sum := "58015d84e3f7aa8f359fe3ae8b4b60dfefe0e1e1ce4b65e8f86c870da0a69f35", func := "palimp/palimplaw17.TableBack", spec := "tableBack", unfollowed := true, recurses := true, apart := false }
def TableBackSaid : Prop := tableBackRow.holds Try.pinned (OpenSpec.ofChange tableBackSpec)

/-- ITS FALSE NEIGHBOUR: 'it returns false'. Refute it at one input. -/
def tableBackWrong : ChangeSpec := { name := "tableBack", fn := fun _ => fun
  | [d1, d2, d3, d4, d5] => { results := [.lit (.bool false)], args := [d1, d2, d3, d4, d5] }
  | _ => none }
def TableBackWrongFalsely : Prop := tableBackRow.holds Try.pinned (OpenSpec.ofChange tableBackWrong)

/-- 'palimplaw17.TableForms': WHATEVER THE INPUT: true; the input reads as it did. -/
def tableFormsSpec : ChangeSpec := { name := "tableForms", fn := fun _ => fun
  | [] => { results := [.lit (.bool true)], args := [] }
  | _ => none }
def tableFormsRow : OpenClaim := { program := "ytofcmdkmhbbbjaa", sum := "58015d84e3f7aa8f359fe3ae8b4b60dfefe0e1e1ce4b65e8f86c870da0a69f35", func := "palimp/palimplaw17.TableForms", spec := "tableForms", unfollowed := true, recurses := true, apart := false }
def TableFormsSaid : Prop := tableFormsRow.holds Try.pinned (OpenSpec.ofChange tableFormsSpec)

/-- ITS FALSE NEIGHBOUR: 'it returns false'. Refute it at one input. -/
def tableFormsWrong : ChangeSpec := { name := "tableForms", fn := fun _ => fun
  | [] => { results := [.lit (.bool false)], args := [] }
  | _ => none }
def TableFormsWrongFalsely : Prop := tableFormsRow.holds Try.pinned (OpenSpec.ofChange tableFormsWrong)

/-- 'palimplaw17.TableTurned': WHATEVER THE INPUT: true; the input reads as it did. -/
def tableTurnedSpec : ChangeSpec := { name := "tableTurned", fn := fun _ => fun
  | [d1, d2, d3, d4, d5, d6] => { results := [.lit (.bool true)], args := [d1, d2, d3, d4, d5, d6] }
  | _ => none }
def tableTurnedRow : OpenClaim := { program := "ytofcmdkmhbbbjaa", sum := "58015d84e3f7aa8f359fe3ae8b4b60dfefe0e1e1ce4b65e8f86c870da0a69f35", func := "palimp/palimplaw17.TableTurned", spec := "tableTurned", unfollowed := true, recurses := true, apart := false }
def TableTurnedSaid : Prop := tableTurnedRow.holds Try.pinned (OpenSpec.ofChange tableTurnedSpec)

/-- ITS FALSE NEIGHBOUR: 'it returns false'. Refute it at one input. -/
def tableTurnedWrong : ChangeSpec := { name := "tableTurned", fn := fun _ => fun
  | [d1, d2, d3, d4, d5, d6] => { results := [.lit (.bool false)], args := [d1, d2, d3, d4, d5, d6] }
  | _ => none }
def TableTurnedWrongFalsely : Prop := tableTurnedRow.holds Try.pinned (OpenSpec.ofChange tableTurnedWrong)

/-- 'palimplaw17.TableFits': WHATEVER THE INPUT: true; the input reads as it did. -/
def tableFitsSpec : ChangeSpec := { name := "tableFits", fn := fun _ => fun
  | [d1, d2, d3] => { results := [.lit (.bool true)], args := [d1, d2, d3] }
  | _ => none }
def tableFitsRow : OpenClaim := { program := "ytofcmdkmhbbbjaa", sum := "58015d84e3f7aa8f359fe3ae8b4b60dfefe0e1e1ce4b65e8f86c870da0a69f35", func := "palimp/palimplaw17.TableFits", spec := "tableFits", unfollowed := true, recurses := true, apart := false }
def TableFitsSaid : Prop := tableFitsRow.holds Try.pinned (OpenSpec.ofChange tableFitsSpec)

/-- ITS FALSE NEIGHBOUR: 'it returns false'. Refute it at one input. -/
def tableFitsWrong : ChangeSpec := { name := "tableFits", fn := fun _ => fun
  | [d1, d2, d3] => { results := [.lit (.bool false)], args := [d1, d2, d3] }
  | _ => none }
def TableFitsWrongFalsely : Prop := tableFitsRow.holds Try.pinned (OpenSpec.ofChange tableFitsWrong)

/- THE SECOND FORM. 'bulk': how many values and letters a reading holds, each counted each time it is reached (what is shared counts as often as it is met; a slice's spare places count too). A statement '..UptoSaid' is the law's where the arguments, and the package variables that the reading takes, are together of bulk at most 1048576: NARROWER than '..Said'. Prove '..Said' where nothing that the law and all that it calls make is longer than what came in: it says more and counts as full. Else prove '..UptoSaid'. A law counts once. -/
mutual
def uptoBulk {H : Type} : DataW H → Nat
  | .lit (.string bytes) => bytes.length + 1
  | .lit _ => 1
  | .nil => 1
  | .ptr d => uptoBulk d + 1
  | .slice elems spare => uptoBulkAll elems + uptoBulkAll spare + 1
  | .agg parts => uptoBulkAll parts + 1
  | .iface _ d => uptoBulk d + 1
  | .map entries => uptoBulkEntries entries + 1
  | .held _ => 1
def uptoBulkAll {H : Type} : List (DataW H) → Nat
  | [] => 0
  | d :: r => uptoBulk d + uptoBulkAll r
def uptoBulkEntries {H : Type} : List (Lit × DataW H) → Nat
  | [] => 0
  | x :: r => uptoBulkEntry x + uptoBulkEntries r
def uptoBulkEntry {H : Type} : Lit × DataW H → Nat
  | (.string bytes, d) => bytes.length + uptoBulk d + 1
  | (_, d) => uptoBulk d + 1
 end
def uptoSmall : (H : Type) → List (DataW H) → Bool := fun _ ds => decide (uptoBulkAll ds ≤ 1048576)
def OpenSpec.upto (s : _root_.Go.ChangeSpec) : _root_.Go.OpenSpec := { _root_.Go.OpenSpec.ofChange s with cond := some uptoSmall }

/-- 'palimplaw17.TableAll', WHERE WHAT IT READS IS OF BULK AT MOST 1048576: true; the input reads as it did. -/
def tableAllUptoRow : OpenClaim := { program := "ytofcmdkmhbbbjaa", sum := "58015d84e3f7aa8f359fe3ae8b4b60dfefe0e1e1ce4b65e8f86c870da0a69f35", func := "palimp/palimplaw17.TableAll", spec := "tableAll", unfollowed := true, recurses := true, apart := false, narrowed := true }
def TableAllUptoSaid : Prop := tableAllUptoRow.holds Try.pinned (OpenSpec.upto tableAllSpec)

/-- 'palimplaw17.TableSpace', WHERE WHAT IT READS IS OF BULK AT MOST 1048576: true; the input reads as it did. -/
def tableSpaceUptoRow : OpenClaim := { program := "ytofcmdkmhbbbjaa", sum := "58015d84e3f7aa8f359fe3ae8b4b60dfefe0e1e1ce4b65e8f86c870da0a69f35", func := "palimp/palimplaw17.TableSpace", spec := "tableSpace", unfollowed := true, recurses := true, apart := false, narrowed := true }
def TableSpaceUptoSaid : Prop := tableSpaceUptoRow.holds Try.pinned (OpenSpec.upto tableSpaceSpec)

/-- 'palimplaw17.TableBack', WHERE WHAT IT READS IS OF BULK AT MOST 1048576: true; the input reads as it did. -/
def tableBackUptoRow : OpenClaim := { program := "ytofcmdkmhbbbjaa", sum := "58015d84e3f7aa8f359fe3ae8b4b60dfefe0e1e1ce4b65e8f86c870da0a69f35", func := "palimp/palimplaw17.TableBack", spec := "tableBack", unfollowed := true, recurses := true, apart := false, narrowed := true }
def TableBackUptoSaid : Prop := tableBackUptoRow.holds Try.pinned (OpenSpec.upto tableBackSpec)

/-- 'palimplaw17.TableForms', WHERE WHAT IT READS IS OF BULK AT MOST 1048576: true; the input reads as it did. -/
def tableFormsUptoRow : OpenClaim := { program := "ytofcmdkmhbbbjaa", sum := "58015d84e3f7aa8f359fe3ae8b4b60dfefe0e1e1ce4b65e8f86c870da0a69f35", func := "palimp/palimplaw17.TableForms", spec := "tableForms", unfollowed := true, recurses := true, apart := false, narrowed := true }
def TableFormsUptoSaid : Prop := tableFormsUptoRow.holds Try.pinned (OpenSpec.upto tableFormsSpec)

/-- 'palimplaw17.TableTurned', WHERE WHAT IT READS IS OF BULK AT MOST 1048576: true; the input reads as it did. -/
def tableTurnedUptoRow : OpenClaim := { program := "ytofcmdkmhbbbjaa", sum := "58015d84e3f7aa8f359fe3ae8b4b60dfefe0e1e1ce4b65e8f86c870da0a69f35", func := "palimp/palimplaw17.TableTurned", spec := "tableTurned", unfollowed := true, recurses := true, apart := false, narrowed := true }
def TableTurnedUptoSaid : Prop := tableTurnedUptoRow.holds Try.pinned (OpenSpec.upto tableTurnedSpec)

/-- 'palimplaw17.TableFits', WHERE WHAT IT READS IS OF BULK AT MOST 1048576: true; the input reads as it did. -/
def tableFitsUptoRow : OpenClaim := { program := "ytofcmdkmhbbbjaa", sum := "58015d84e3f7aa8f359fe3ae8b4b60dfefe0e1e1ce4b65e8f86c870da0a69f35", func := "palimp/palimplaw17.TableFits", spec := "tableFits", unfollowed := true, recurses := true, apart := false, narrowed := true }
def TableFitsUptoSaid : Prop := tableFitsUptoRow.holds Try.pinned (OpenSpec.upto tableFitsSpec)

end Rows
end Go.Proofs.Ytofcmdkmhbbbjaa
