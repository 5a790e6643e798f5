/-
  No cell of these rows narrows 'for every input' (looked for: loops, veiled, ifaces, maps, wideKeys, modest, calm, conditions, laid).
  DERIVED. THE GIVEN ROWS OF THIS SEAT. 4 by the template 'for every input the law returns true; each argument reads behind the call as it read before'; 0 by the template 'total and deterministic' (their statements: YtcohccaggepajaaTotals.lean).
  GIVEN WITH THE SEED: the statements are not yours to turn. If you find one false, say at which input.
  Laid BY PROGRAM, IN A SANDBOX (cutbox-rows.mjs): the forced cells as the released guide's own fill.sh prints them over the translation 1bf2d7ef8173dc0a… (all of the seat's roots in one cut). By AI agents, Wed Nov 11 2026. No macro, syntax, notation, axiom, sorry.
-/
import Derived.Test.YtcohccaggepajaaChecked
import GoSem.Claim
import GoSem.ClaimJoined
import GoSem.ClaimMapViews
import Derived.JoinedTies
import Derived.KernelRfl
namespace Go.Proofs.Ytcohccaggepajaa
/- THE CELL 'sum', in the pinned program and in every row, IS THE sha256 OF THE DUMP (.gsa) THAT YtcohccaggepajaaProg.lean LOADS. Nothing in Lean hashes anything: it is a label: what it is worth is what the hold of that sum in a sandbox is worth. -/
noncomputable def Try.pinned : Pinned := { name := "ytcohccaggepajaa", sum := "1bf2d7ef8173dc0a031bbefde5f0cc10441d1a310e6e260716e817523821c540", checked := Try.checked }
namespace Rows
def none {H : Type} : Left H := { results := [], args := [] }

/-- 'palimplaw16.RecAll': WHATEVER THE INPUT: true; the input reads as it did. -/
def recAllSpec : ChangeSpec := { name := "recAll", fn := fun _ => fun
  | [d1, d2, d3, d4, d5, d6, d7, d8] => { results := [.lit (.bool true)], args := [d1, d2, d3, d4, d5, d6, d7, d8] }
  | _ => none }
def recAllRow : OpenClaim := { program := "ytcohccaggepajaa", sum := "1bf2d7ef8173dc0a031bbefde5f0cc10441d1a310e6e260716e817523821c540", func := "palimp/palimplaw16.RecAll", spec := "recAll", apart := false }
def RecAllSaid : Prop := recAllRow.holds Try.pinned (OpenSpec.ofChange recAllSpec)

/-- ITS FALSE NEIGHBOUR: 'it returns false'. Refute it at one input. -/
def recAllWrong : ChangeSpec := { name := "recAll", fn := fun _ => fun
  | [d1, d2, d3, d4, d5, d6, d7, d8] => { results := [.lit (.bool false)], args := [d1, d2, d3, d4, d5, d6, d7, d8] }
  | _ => none }
def RecAllWrongFalsely : Prop := recAllRow.holds Try.pinned (OpenSpec.ofChange recAllWrong)

/-- 'palimplaw16.RecBack': WHATEVER THE INPUT: true; the input reads as it did. -/
def recBackSpec : ChangeSpec := { name := "recBack", fn := fun _ => fun
  | [d1, d2, d3, d4, d5] => { results := [.lit (.bool true)], args := [d1, d2, d3, d4, d5] }
  | _ => none }
def recBackRow : OpenClaim := { program := "ytcohccaggepajaa", sum := "1bf2d7ef8173dc0a031bbefde5f0cc10441d1a310e6e260716e817523821c540", func := "palimp/palimplaw16.RecBack", spec := "recBack", apart := false }
def RecBackSaid : Prop := recBackRow.holds Try.pinned (OpenSpec.ofChange recBackSpec)

/-- ITS FALSE NEIGHBOUR: 'it returns false'. Refute it at one input. -/
def recBackWrong : ChangeSpec := { name := "recBack", fn := fun _ => fun
  | [d1, d2, d3, d4, d5] => { results := [.lit (.bool false)], args := [d1, d2, d3, d4, d5] }
  | _ => none }
def RecBackWrongFalsely : Prop := recBackRow.holds Try.pinned (OpenSpec.ofChange recBackWrong)

/-- 'palimplaw16.RecTurned': WHATEVER THE INPUT: true; the input reads as it did. -/
def recTurnedSpec : ChangeSpec := { name := "recTurned", fn := fun _ => fun
  | [d1, d2, d3, d4, d5] => { results := [.lit (.bool true)], args := [d1, d2, d3, d4, d5] }
  | _ => none }
def recTurnedRow : OpenClaim := { program := "ytcohccaggepajaa", sum := "1bf2d7ef8173dc0a031bbefde5f0cc10441d1a310e6e260716e817523821c540", func := "palimp/palimplaw16.RecTurned", spec := "recTurned", apart := false }
def RecTurnedSaid : Prop := recTurnedRow.holds Try.pinned (OpenSpec.ofChange recTurnedSpec)

/-- ITS FALSE NEIGHBOUR: 'it returns false'. Refute it at one input. -/
def recTurnedWrong : ChangeSpec := { name := "recTurned", fn := fun _ => fun
  | [d1, d2, d3, d4, d5] => { results := [.lit (.bool false)], args := [d1, d2, d3, d4, d5] }
  | _ => none }
def RecTurnedWrongFalsely : Prop := recTurnedRow.holds Try.pinned (OpenSpec.ofChange recTurnedWrong)

/-- 'palimplaw16.RecForms': WHATEVER THE INPUT: true; the input reads as it did. -/
def recFormsSpec : ChangeSpec := { name := "recForms", fn := fun _ => fun
  | [] => { results := [.lit (.bool true)], args := [] }
  | _ => none }
def recFormsRow : OpenClaim := { program := "ytcohccaggepajaa", sum := "1bf2d7ef8173dc0a031bbefde5f0cc10441d1a310e6e260716e817523821c540", func := "palimp/palimplaw16.RecForms", spec := "recForms", apart := false }
def RecFormsSaid : Prop := recFormsRow.holds Try.pinned (OpenSpec.ofChange recFormsSpec)

/-- ITS FALSE NEIGHBOUR: 'it returns false'. Refute it at one input. -/
def recFormsWrong : ChangeSpec := { name := "recForms", fn := fun _ => fun
  | [] => { results := [.lit (.bool false)], args := [] }
  | _ => none }
def RecFormsWrongFalsely : Prop := recFormsRow.holds Try.pinned (OpenSpec.ofChange recFormsWrong)

/- THE SECOND FORM. 'bulk': how many values and letters a reading holds, each counted each time it is reached (what is shared counts as often as it is met; a slice's spare places count too). A statement '..UptoSaid' is the law's where the arguments, and the package variables that the reading takes, are together of bulk at most 1048576: NARROWER than '..Said'. Prove '..Said' where nothing that the law and all that it calls make is longer than what came in: it says more and counts as full. Else prove '..UptoSaid'. A law counts once. -/
mutual
def uptoBulk {H : Type} : DataW H → Nat
  | .lit (.string bytes) => bytes.length + 1
  | .lit _ => 1
  | .nil => 1
  | .ptr d => uptoBulk d + 1
  | .slice elems spare => uptoBulkAll elems + uptoBulkAll spare + 1
  | .agg parts => uptoBulkAll parts + 1
  | .iface _ d => uptoBulk d + 1
  | .map entries => uptoBulkEntries entries + 1
  | .held _ => 1
def uptoBulkAll {H : Type} : List (DataW H) → Nat
  | [] => 0
  | d :: r => uptoBulk d + uptoBulkAll r
def uptoBulkEntries {H : Type} : List (Lit × DataW H) → Nat
  | [] => 0
  | x :: r => uptoBulkEntry x + uptoBulkEntries r
def uptoBulkEntry {H : Type} : Lit × DataW H → Nat
  | (.string bytes, d) => bytes.length + uptoBulk d + 1
  | (_, d) => uptoBulk d + 1
 end
def uptoSmall : (H : Type) → List (DataW H) → Bool := fun _ ds => decide (uptoBulkAll ds ≤ 1048576)
def OpenSpec.upto (s : _root_.Go.ChangeSpec) : _root_.Go.OpenSpec := { _root_.Go.OpenSpec.ofChange s with cond := some uptoSmall }

/-- 'palimplaw16.RecAll', WHERE WHAT IT READS IS OF BULK AT MOST 1048576: true; the input reads as it did. -/
def recAllUptoRow : OpenClaim := { program := "ytcohccaggepajaa", sum := "1bf2d7ef8173dc0a031bbefde5f0cc10441d1a310e6e260716e817523821c540", func := "palimp/palimplaw16.RecAll", spec := "recAll", apart := false, narrowed := true }
def RecAllUptoSaid : Prop := recAllUptoRow.holds Try.pinned (OpenSpec.upto recAllSpec)

/-- 'palimplaw16.RecBack', WHERE WHAT IT READS IS OF BULK AT MOST 1048576: true; the input reads as it did. -/
def recBackUptoRow : OpenClaim := { program := "ytcohccaggepajaa", sum := "1bf2d7ef8173dc0a031bbefde5f0cc10441d1a310e6e260716e817523821c540", func := "palimp/palimplaw16.RecBack", spec := "recBack", apart := false, narrowed := true }
def RecBackUptoSaid : Prop := recBackUptoRow.holds Try.pinned (OpenSpec.upto recBackSpec)

/-- 'palimplaw16.RecTurned', WHERE WHAT IT READS IS OF BULK AT MOST 1048576: true; the input reads as it did. -/
def recTurnedUptoRow : OpenClaim := { program := "ytcohccaggepajaa", sum := "1bf2d7ef8173dc0a031bbefde5f0cc10441d1a310e6e260716e817523821c540", func := "palimp/palimplaw16.RecTurned", spec := "recTurned", apart := false, narrowed := true }
def RecTurnedUptoSaid : Prop := recTurnedUptoRow.holds Try.pinned (OpenSpec.upto recTurnedSpec)

/-- 'palimplaw16.RecForms', WHERE WHAT IT READS IS OF BULK AT MOST 1048576: true; the input reads as it did. -/
def recFormsUptoRow : OpenClaim := { program := "ytcohccaggepajaa", sum := "1bf2d7ef8173dc0a031bbefde5f0cc10441d1a310e6e260716e817523821c540", func := "palimp/palimplaw16.RecForms", spec := "recForms", apart := false, narrowed := true }
def RecFormsUptoSaid : Prop := recFormsUptoRow.holds Try.pinned (OpenSpec.upto recFormsSpec)

end Rows
end Go.Proofs.Ytcohccaggepajaa
