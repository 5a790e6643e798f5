/-
  No cell of these rows narrows 'for every input' (looked for: loops, veiled, ifaces, maps, wideKeys, modest, calm, conditions, laid).
  DERIVED. THE GIVEN ROWS OF THIS SEAT. 5 by the template 'for every input the law returns true; each argument reads behind the call as it read before'; 0 by the template 'total and deterministic' (their statements: YthhgaeeeppipnaaTotals.lean).
  GIVEN WITH THE SEED: the statements are not yours to turn. If you find one false, say at which input.
  Laid BY PROGRAM, IN A SANDBOX (cutbox-rows.mjs): the forced cells as the released guide's own fill.sh prints them over the translation 3cdba3b5d5f39540… (all of the seat's roots in one cut). By AI agents, Wed Nov 11 2026. No macro, syntax, notation, axiom, sorry.
-/
import Derived.Test.YthhgaeeeppipnaaChecked
import GoSem.Claim
import GoSem.ClaimJoined
import GoSem.ClaimMapViews
import Derived.JoinedTies
import Derived.KernelRfl
namespace Go.Proofs.Ythhgaeeeppipnaa
/- THE CELL 'sum', in the pinned program and in every row, IS THE sha256 OF THE DUMP (.gsa) THAT YthhgaeeeppipnaaProg.lean LOADS. Nothing in Lean hashes anything: it is a label: what it is worth is what the hold of that sum in a sandbox is worth. -/
noncomputable def Try.pinned : Pinned := { name := "ythhgaeeeppipnaa", sum := "3cdba3b5d5f3954082c1a073642782da97c4f18da6b312adf0c988003e4918c0", checked := Try.checked }
namespace Rows
def none {H : Type} : Left H := { results := [], args := [] }

/-- 'palimplaw25.OpsAll': WHATEVER THE INPUT: true; the input reads as it did. -/
def opsAllSpec : ChangeSpec := { name := "opsAll", fn := fun _ => fun
  | [d1, d2, d3] => { results := [.lit (.bool true)], args := [d1, d2, d3] }
  | _ => none }
def opsAllRow : OpenClaim := { program := "ythhgaeeeppipnaa", sum := "3cdba3b5d5f3954082c1a073642782da97c4f18da6b312adf0c988003e4918c0", func := "palimp/palimplaw25.OpsAll", spec := "opsAll", apart := false }
def OpsAllSaid : Prop := opsAllRow.holds Try.pinned (OpenSpec.ofChange opsAllSpec)

/-- ITS FALSE NEIGHBOUR: 'it returns false'. Refute it at one input. -/
def opsAllWrong : ChangeSpec := { name := "opsAll", fn := fun _ => fun
  | [d1, d2, d3] => { results := [.lit (.bool false)], args := [d1, d2, d3] }
  | _ => none }
def OpsAllWrongFalsely : Prop := opsAllRow.holds Try.pinned (OpenSpec.ofChange opsAllWrong)

/-- 'palimplaw25.OpsBack': WHATEVER THE INPUT: true; the input reads as it did. -/
def opsBackSpec : ChangeSpec := { name := "opsBack", fn := fun _ => fun
  | [d] => { results := [.lit (.bool true)], args := [d] }
  | _ => none }
def opsBackRow : OpenClaim := { program := "ythhgaeeeppipnaa", sum := "3cdba3b5d5f3954082c1a073642782da97c4f18da6b312adf0c988003e4918c0", func := "palimp/palimplaw25.OpsBack", spec := "opsBack", apart := false }
def OpsBackSaid : Prop := opsBackRow.holds Try.pinned (OpenSpec.ofChange opsBackSpec)

/-- ITS FALSE NEIGHBOUR: 'it returns false'. Refute it at one input. -/
def opsBackWrong : ChangeSpec := { name := "opsBack", fn := fun _ => fun
  | [d] => { results := [.lit (.bool false)], args := [d] }
  | _ => none }
def OpsBackWrongFalsely : Prop := opsBackRow.holds Try.pinned (OpenSpec.ofChange opsBackWrong)

/-- 'palimplaw25.OpsTaken': WHATEVER THE INPUT: true; the input reads as it did. -/
def opsTakenSpec : ChangeSpec := { name := "opsTaken", fn := fun _ => fun
  | [d1, d2] => { results := [.lit (.bool true)], args := [d1, d2] }
  | _ => none }
def opsTakenRow : OpenClaim := { program := "ythhgaeeeppipnaa", sum := "3cdba3b5d5f3954082c1a073642782da97c4f18da6b312adf0c988003e4918c0", func := "palimp/palimplaw25.OpsTaken", spec := "opsTaken", apart := false }
def OpsTakenSaid : Prop := opsTakenRow.holds Try.pinned (OpenSpec.ofChange opsTakenSpec)

/-- ITS FALSE NEIGHBOUR: 'it returns false'. Refute it at one input. -/
def opsTakenWrong : ChangeSpec := { name := "opsTaken", fn := fun _ => fun
  | [d1, d2] => { results := [.lit (.bool false)], args := [d1, d2] }
  | _ => none }
def OpsTakenWrongFalsely : Prop := opsTakenRow.holds Try.pinned (OpenSpec.ofChange opsTakenWrong)

/-- 'palimplaw25.OpsCut': WHATEVER THE INPUT: true; the input reads as it did. -/
def opsCutSpec : ChangeSpec := { name := "opsCut", fn := fun _ => fun
  | [d1, d2, d3] => { results := [.lit (.bool true)], args := [d1, d2, d3] }
  | _ => none }
def opsCutRow : OpenClaim := { program := "ythhgaeeeppipnaa", sum := "3cdba3b5d5f3954082c1a073642782da97c4f18da6b312adf0c988003e4918c0", func := "palimp/palimplaw25.OpsCut", spec := "opsCut", apart := false }
def OpsCutSaid : Prop := opsCutRow.holds Try.pinned (OpenSpec.ofChange opsCutSpec)

/-- ITS FALSE NEIGHBOUR: 'it returns false'. Refute it at one input. -/
def opsCutWrong : ChangeSpec := { name := "opsCut", fn := fun _ => fun
  | [d1, d2, d3] => { results := [.lit (.bool false)], args := [d1, d2, d3] }
  | _ => none }
def OpsCutWrongFalsely : Prop := opsCutRow.holds Try.pinned (OpenSpec.ofChange opsCutWrong)

/-- 'palimplaw25.OpsForms': WHATEVER THE INPUT: true; the input reads as it did. -/
def opsFormsSpec : ChangeSpec := { name := "opsForms", fn := fun _ => fun
  | [] => { results := [.lit (.bool true)], args := [] }
  | _ => none }
def opsFormsRow : OpenClaim := { program := "ythhgaeeeppipnaa", sum := "3cdba3b5d5f3954082c1a073642782da97c4f18da6b312adf0c988003e4918c0", func := "palimp/palimplaw25.OpsForms", spec := "opsForms", apart := false }
def OpsFormsSaid : Prop := opsFormsRow.holds Try.pinned (OpenSpec.ofChange opsFormsSpec)

/-- ITS FALSE NEIGHBOUR: 'it returns false'. Refute it at one input. -/
def opsFormsWrong : ChangeSpec := { name := "opsForms", fn := fun _ => fun
  | [] => { results := [.lit (.bool false)], args := [] }
  | _ => none }
def OpsFormsWrongFalsely : Prop := opsFormsRow.holds Try.pinned (OpenSpec.ofChange opsFormsWrong)

/- THE SECOND FORM. 'bulk': how many values and letters a reading holds, each counted each time it is reached (what is shared counts as often as it is met; a slice's spare places count too). A statement '..UptoSaid' is the law's where the arguments, and the package variables that the reading takes, are together of bulk at most 1048576: NARROWER than '..Said'. Prove '..Said' where nothing that the law and all that it calls make is longer than what came in: it says more and counts as full. Else prove '..UptoSaid'. A law counts once. -/
mutual
def uptoBulk {H : Type} : DataW H → Nat
  | .lit (.string bytes) => bytes.length + 1
  | .lit _ => 1
  | .nil => 1
  | .ptr d => uptoBulk d + 1
  | .slice elems spare => uptoBulkAll elems + uptoBulkAll spare + 1
  | .agg parts => uptoBulkAll parts + 1
  | .iface _ d => uptoBulk d + 1
  | .map entries => uptoBulkEntries entries + 1
  | .held _ => 1
def uptoBulkAll {H : Type} : List (DataW H) → Nat
  | [] => 0
  | d :: r => uptoBulk d + uptoBulkAll r
def uptoBulkEntries {H : Type} : List (Lit × DataW H) → Nat
  | [] => 0
  | x :: r => uptoBulkEntry x + uptoBulkEntries r
def uptoBulkEntry {H : Type} : Lit × DataW H → Nat
  | (.string bytes, d) => bytes.length + uptoBulk d + 1
  | (_, d) => uptoBulk d + 1
 end
def uptoSmall : (H : Type) → List (DataW H) → Bool := fun _ ds => decide (uptoBulkAll ds ≤ 1048576)
def OpenSpec.upto (s : _root_.Go.ChangeSpec) : _root_.Go.OpenSpec := { _root_.Go.OpenSpec.ofChange s with cond := some uptoSmall }

/-- 'palimplaw25.OpsAll', WHERE WHAT IT READS IS OF BULK AT MOST 1048576: true; the input reads as it did. -/
def opsAllUptoRow : OpenClaim := { program := "ythhgaeeeppipnaa", sum := "3cdba3b5d5f3954082c1a073642782da97c4f18da6b312adf0c988003e4918c0", func := "palimp/palimplaw25.OpsAll", spec := "opsAll", apart := false, narrowed := true }
def OpsAllUptoSaid : Prop := opsAllUptoRow.holds Try.pinned (OpenSpec.upto opsAllSpec)

/-- 'palimplaw25.OpsBack', WHERE WHAT IT READS IS OF BULK AT MOST 1048576: true; the input reads as it did. -/
def opsBackUptoRow : OpenClaim := { program := "ythhgaeeeppipnaa", sum := "3cdba3b5d5f3954082c1a073642782da97c4f18da6b312adf0c988003e4918c0", func := "palimp/palimplaw25.OpsBack", spec := "opsBack", apart := false, narrowed := true }
def OpsBackUptoSaid : Prop := opsBackUptoRow.holds Try.pinned (OpenSpec.upto opsBackSpec)

/-- 'palimplaw25.OpsTaken', WHERE WHAT IT READS IS OF BULK AT MOST 1048576: true; the input reads as it did. -/
def opsTakenUptoRow : OpenClaim := { program := "ythhgaeeeppipnaa", sum := "3cdba3b5d5f3954082c1a073642782da97c4f18da6b312adf0c988003e4918c0", func := "palimp/palimplaw25.OpsTaken", spec := "opsTaken", apart := false, narrowed := true }
def OpsTakenUptoSaid : Prop := opsTakenUptoRow.holds Try.pinned (OpenSpec.upto opsTakenSpec)

/-- 'palimplaw25.OpsCut', WHERE WHAT IT READS IS OF BULK AT MOST 1048576: true; the input reads as it did. -/
def opsCutUptoRow : OpenClaim := { program := "ythhgaeeeppipnaa", sum := "3cdba3b5d5f3954082c1a073642782da97c4f18da6b312adf0c988003e4918c0", func := "palimp/palimplaw25.OpsCut", spec := "opsCut", apart := false, narrowed := true }
def OpsCutUptoSaid : Prop := opsCutUptoRow.holds Try.pinned (OpenSpec.upto opsCutSpec)

/-- 'palimplaw25.OpsForms', WHERE WHAT IT READS IS OF BULK AT MOST 1048576: true; the input reads as it did. -/
def opsFormsUptoRow : OpenClaim := { program := "ythhgaeeeppipnaa", sum := "3cdba3b5d5f3954082c1a073642782da97c4f18da6b312adf0c988003e4918c0", func := "palimp/palimplaw25.OpsForms", spec := "opsForms", apart := false, narrowed := true }
def OpsFormsUptoSaid : Prop := opsFormsUptoRow.holds Try.pinned (OpenSpec.upto opsFormsSpec)

end Rows
end Go.Proofs.Ythhgaeeeppipnaa
