/-
  No cell of these rows narrows 'for every input' (looked for: loops, veiled, ifaces, maps, wideKeys, modest, calm, conditions, laid).
  DERIVED. THE GIVEN ROWS OF THIS SEAT. 6 by the template 'for every input the law returns true; each argument reads behind the call as it read before'; 0 by the template 'total and deterministic' (their statements: YtnabeiodhhmdoaaTotals.lean).
  GIVEN WITH THE SEED: the statements are not yours to turn. If you find one false, say at which input.
  Laid BY PROGRAM, IN A SANDBOX (cutbox-rows.mjs): the forced cells as the released guide's own fill.sh prints them over the translation 19beb21a3b4a495a… (all of the seat's roots in one cut). By AI agents, Wed Nov 11 2026. No macro, syntax, notation, axiom, sorry.
-/
import Derived.Test.YtnabeiodhhmdoaaChecked
import GoSem.Claim
import GoSem.ClaimJoined
import GoSem.ClaimMapViews
import Derived.JoinedTies
import Derived.KernelRfl
namespace Go.Proofs.Ytnabeiodhhmdoaa
/- THE CELL 'sum', in the pinned program and in every row, IS THE sha256 OF THE DUMP (.gsa) THAT YtnabeiodhhmdoaaProg.lean LOADS. Nothing in Lean hashes anything: it is a label: what it is worth is what the hold of that sum in a sandbox is worth. -/
noncomputable def Try.pinned : Pinned := { name := "ytnabeiodhhmdoaa", sum := "19beb21a3b4a495a6f83006468f4692659dbf9aaab9cb85b98cef310ed77d75b", checked := Try.checked }
namespace Rows
def none {H : Type} : Left H := { results := [], args := [] }

/-- 'palimplaw3.PackAll': WHATEVER THE INPUT: true; the input reads as it did. -/
def packAllSpec : ChangeSpec := { name := "packAll", fn := fun _ => fun
  | [d1, d2, d3, d4, d5] => { results := [.lit (.bool true)], args := [d1, d2, d3, d4, d5] }
  | _ => none }
def packAllRow : OpenClaim := { program := "ytnabeiodhhmdoaa", sum := "19beb21a3b4a495a6f83006468f4692659dbf9aaab9cb85b98cef310ed77d75b", func := "palimp/palimplaw3.PackAll", spec := "packAll", apart := false }
def PackAllSaid : Prop := packAllRow.holds Try.pinned (OpenSpec.ofChange packAllSpec)

/-- ITS FALSE NEIGHBOUR: 'it returns false'. Refute it at one input. -/
def packAllWrong : ChangeSpec := { name := "packAll", fn := fun _ => fun
  | [d1, d2, d3, d4, d5] => { results := [.lit (.bool false)], args := [d1, d2, d3, d4, d5] }
  | _ => none }
def PackAllWrongFalsely : Prop := packAllRow.holds Try.pinned (OpenSpec.ofChange packAllWrong)

/-- 'palimplaw3.PackBack': WHATEVER THE INPUT: true; the input reads as it did. -/
def packBackSpec : ChangeSpec := { name := "packBack", fn := fun _ => fun
  | [d1, d2, d3, d4] => { results := [.lit (.bool true)], args := [d1, d2, d3, d4] }
  | _ => none }
def packBackRow : OpenClaim := { program := "ytnabeiodhhmdoaa", sum := "19beb21a3b4a495a6f83006468f4692659dbf9aaab9cb85b98cef310ed77d75b", func := "palimp/palimplaw3.PackBack", spec := "packBack", apart := false }
def PackBackSaid : Prop := packBackRow.holds Try.pinned (OpenSpec.ofChange packBackSpec)

/-- ITS FALSE NEIGHBOUR: 'it returns false'. Refute it at one input. -/
def packBackWrong : ChangeSpec := { name := "packBack", fn := fun _ => fun
  | [d1, d2, d3, d4] => { results := [.lit (.bool false)], args := [d1, d2, d3, d4] }
  | _ => none }
def PackBackWrongFalsely : Prop := packBackRow.holds Try.pinned (OpenSpec.ofChange packBackWrong)

/-- 'palimplaw3.PackForms': WHATEVER THE INPUT: true; the input reads as it did. -/
def packFormsSpec : ChangeSpec := { name := "packForms", fn := fun _ => fun
  | [] => { results := [.lit (.bool true)], args := [] }
  | _ => none }
def packFormsRow : OpenClaim := { program := "ytnabeiodhhmdoaa", sum := "19beb21a3b4a495a6f83006468f4692659dbf9aaab9cb85b98cef310ed77d75b", func := "palimp/palimplaw3.PackForms", spec := "packForms", apart := false }
def PackFormsSaid : Prop := packFormsRow.holds Try.pinned (OpenSpec.ofChange packFormsSpec)

/-- ITS FALSE NEIGHBOUR: 'it returns false'. Refute it at one input. -/
def packFormsWrong : ChangeSpec := { name := "packForms", fn := fun _ => fun
  | [] => { results := [.lit (.bool false)], args := [] }
  | _ => none }
def PackFormsWrongFalsely : Prop := packFormsRow.holds Try.pinned (OpenSpec.ofChange packFormsWrong)

/-- 'palimplaw3.PackJoins': WHATEVER THE INPUT: true; the input reads as it did. -/
def packJoinsSpec : ChangeSpec := { name := "packJoins", fn := fun _ => fun
  | [d1, d2, d3] => { results := [.lit (.bool true)], args := [d1, d2, d3] }
  | _ => none }
def packJoinsRow : OpenClaim := { program := "ytnabeiodhhmdoaa", sum := "19beb21a3b4a495a6f83006468f4692659dbf9aaab9cb85b98cef310ed77d75b", func := "palimp/palimplaw3.PackJoins", spec := "packJoins", apart := false }
def PackJoinsSaid : Prop := packJoinsRow.holds Try.pinned (OpenSpec.ofChange packJoinsSpec)

/-- ITS FALSE NEIGHBOUR: 'it returns false'. Refute it at one input. -/
def packJoinsWrong : ChangeSpec := { name := "packJoins", fn := fun _ => fun
  | [d1, d2, d3] => { results := [.lit (.bool false)], args := [d1, d2, d3] }
  | _ => none }
def PackJoinsWrongFalsely : Prop := packJoinsRow.holds Try.pinned (OpenSpec.ofChange packJoinsWrong)

/-- 'palimplaw3.PackOrder': WHATEVER THE INPUT: true; the input reads as it did. -/
def packOrderSpec : ChangeSpec := { name := "packOrder", fn := fun _ => fun
  | [d1, d2, d3] => { results := [.lit (.bool true)], args := [d1, d2, d3] }
  | _ => none }
def packOrderRow : OpenClaim := { program := "ytnabeiodhhmdoaa", sum := "19beb21a3b4a495a6f83006468f4692659dbf9aaab9cb85b98cef310ed77d75b", func := "palimp/palimplaw3.PackOrder", spec := "packOrder", apart := false }
def PackOrderSaid : Prop := packOrderRow.holds Try.pinned (OpenSpec.ofChange packOrderSpec)

/-- ITS FALSE NEIGHBOUR: 'it returns false'. Refute it at one input. -/
def packOrderWrong : ChangeSpec := { name := "packOrder", fn := fun _ => fun
  | [d1, d2, d3] => { results := [.lit (.bool false)], args := [d1, d2, d3] }
  | _ => none }
def PackOrderWrongFalsely : Prop := packOrderRow.holds Try.pinned (OpenSpec.ofChange packOrderWrong)

/-- 'palimplaw3.PackLow': WHATEVER THE INPUT: true; the input reads as it did. -/
def packLowSpec : ChangeSpec := { name := "packLow", fn := fun _ => fun
  | [d1, d2] => { results := [.lit (.bool true)], args := [d1, d2] }
  | _ => none }
def packLowRow : OpenClaim := { program := "ytnabeiodhhmdoaa", sum := "19beb21a3b4a495a6f83006468f4692659dbf9aaab9cb85b98cef310ed77d75b", func := "palimp/palimplaw3.PackLow", spec := "packLow", apart := false }
def PackLowSaid : Prop := packLowRow.holds Try.pinned (OpenSpec.ofChange packLowSpec)

/-- ITS FALSE NEIGHBOUR: 'it returns false'. Refute it at one input. -/
def packLowWrong : ChangeSpec := { name := "packLow", fn := fun _ => fun
  | [d1, d2] => { results := [.lit (.bool false)], args := [d1, d2] }
  | _ => none }
def PackLowWrongFalsely : Prop := packLowRow.holds Try.pinned (OpenSpec.ofChange packLowWrong)

/- THE SECOND FORM. 'bulk': how many values and letters a reading holds, each counted each time it is reached (what is shared counts as often as it is met; a slice's spare places count too). A statement '..UptoSaid' is the law's where the arguments, and the package variables that the reading takes, are together of bulk at most 1048576: NARROWER than '..Said'. Prove '..Said' where nothing that the law and all that it calls make is longer than what came in: it says more and counts as full. Else prove '..UptoSaid'. A law counts once. -/
mutual
def uptoBulk {H : Type} : DataW H → Nat
  | .lit (.string bytes) => bytes.length + 1
  | .lit _ => 1
  | .nil => 1
  | .ptr d => uptoBulk d + 1
  | .slice elems spare => uptoBulkAll elems + uptoBulkAll spare + 1
  | .agg parts => uptoBulkAll parts + 1
  | .iface _ d => uptoBulk d + 1
  | .map entries => uptoBulkEntries entries + 1
  | .held _ => 1
def uptoBulkAll {H : Type} : List (DataW H) → Nat
  | [] => 0
  | d :: r => uptoBulk d + uptoBulkAll r
def uptoBulkEntries {H : Type} : List (Lit × DataW H) → Nat
  | [] => 0
  | x :: r => uptoBulkEntry x + uptoBulkEntries r
def uptoBulkEntry {H : Type} : Lit × DataW H → Nat
  | (.string bytes, d) => bytes.length + uptoBulk d + 1
  | (_, d) => uptoBulk d + 1
 end
def uptoSmall : (H : Type) → List (DataW H) → Bool := fun _ ds => decide (uptoBulkAll ds ≤ 1048576)
def OpenSpec.upto (s : _root_.Go.ChangeSpec) : _root_.Go.OpenSpec := { _root_.Go.OpenSpec.ofChange s with cond := some uptoSmall }

/-- 'palimplaw3.PackAll', WHERE WHAT IT READS IS OF BULK AT MOST 1048576: true; the input reads as it did. -/
def packAllUptoRow : OpenClaim := { program := "ytnabeiodhhmdoaa", sum := "19beb21a3b4a495a6f83006468f4692659dbf9aaab9cb85b98cef310ed77d75b", func := "palimp/palimplaw3.PackAll", spec := "packAll", apart := false, narrowed := true }
def PackAllUptoSaid : Prop := packAllUptoRow.holds Try.pinned (OpenSpec.upto packAllSpec)

/-- 'palimplaw3.PackBack', WHERE WHAT IT READS IS OF BULK AT MOST 1048576: true; the input reads as it did. -/
def packBackUptoRow : OpenClaim := { program := "ytnabeiodhhmdoaa", sum := "19beb21a3b4a495a6f83006468f4692659dbf9aaab9cb85b98cef310ed77d75b", func := "palimp/palimplaw3.PackBack", spec := "packBack", apart := false, narrowed := true }
def PackBackUptoSaid : Prop := packBackUptoRow.holds Try.pinned (OpenSpec.upto packBackSpec)

/-- 'palimplaw3.PackForms', WHERE WHAT IT READS IS OF BULK AT MOST 1048576: true; the input reads as it did. -/
def packFormsUptoRow : OpenClaim := { program := "ytnabeiodhhmdoaa", sum := "19beb21a3b4a495a6f83006468f4692659dbf9aaab9cb85b98cef310ed77d75b", func := "palimp/palimplaw3.PackForms", spec := "packForms", apart := false, narrowed := true }
def PackFormsUptoSaid : Prop := packFormsUptoRow.holds Try.pinned (OpenSpec.upto packFormsSpec)

/-- 'palimplaw3.PackJoins', WHERE WHAT IT READS IS OF BULK AT MOST 1048576: true; the input reads as it did. -/
def packJoinsUptoRow : OpenClaim := { program := "ytnabeiodhhmdoaa", sum := "19beb21a3b4a495a6f83006468f4692659dbf9aaab9cb85b98cef310ed77d75b", func := "palimp/palimplaw3.PackJoins", spec := "packJoins", apart := false, narrowed := true }
def PackJoinsUptoSaid : Prop := packJoinsUptoRow.holds Try.pinned (OpenSpec.upto packJoinsSpec)

/-- 'palimplaw3.PackOrder', WHERE WHAT IT READS IS OF BULK AT MOST 1048576: true; the input reads as it did. -/
def packOrderUptoRow : OpenClaim := { program := "ytnabeiodhhmdoaa", sum := "19beb21a3b4a495a6f83006468f4692659dbf9aaab9cb85b98cef310ed77d75b", func := "palimp/palimplaw3.PackOrder", spec := "packOrder", apart := false, narrowed := true }
def PackOrderUptoSaid : Prop := packOrderUptoRow.holds Try.pinned (OpenSpec.upto packOrderSpec)

/-- 'palimplaw3.PackLow', WHERE WHAT IT READS IS OF BULK AT MOST 1048576: true; the input reads as it did. -/
def packLowUptoRow : OpenClaim := { program := "ytnabeiodhhmdoaa", sum := "19beb21a3b4a495a6f83006468f4692659dbf9aaab9cb85b98cef310ed77d75b", func := "palimp/palimplaw3.PackLow", spec := "packLow", apart := false, narrowed := true }
def PackLowUptoSaid : Prop := packLowUptoRow.holds Try.pinned (OpenSpec.upto packLowSpec)

end Rows
end Go.Proofs.Ytnabeiodhhmdoaa
