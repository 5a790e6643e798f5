/-
  No cell of these rows narrows 'for every input' (looked for: loops, veiled, ifaces, maps, wideKeys, modest, calm, conditions, laid).
  DERIVED. THE GIVEN ROWS OF THIS SEAT. 7 by the template 'for every input the law returns true; each argument reads behind the call as it read before'; 0 by the template 'total and deterministic' (their statements: YtcahbcdikcjihaaTotals.lean).
  GIVEN WITH THE SEED: the statements are not yours to turn. If you find one false, say at which input.
  Laid BY PROGRAM, IN A SANDBOX (cutbox-rows.mjs): the forced cells as the released guide's own fill.sh prints them over the translation 43c1d3e46c3746b5… (all of the seat's roots in one cut). By AI agents, Wed Nov 11 2026. No macro, syntax, notation, axiom, sorry.
-/
import Derived.Test.YtcahbcdikcjihaaChecked
import GoSem.Claim
import GoSem.ClaimJoined
import GoSem.ClaimMapViews
import Derived.JoinedTies
import Derived.KernelRfl
namespace Go.Proofs.Ytcahbcdikcjihaa
/- THE CELL 'sum', in the pinned program and in every row, IS THE sha256 OF THE DUMP (.gsa) THAT YtcahbcdikcjihaaProg.lean LOADS. Nothing in Lean hashes anything: it is a label: what it is worth is what the hold of that sum in a sandbox is worth. -/
noncomputable def Try.pinned : Pinned := { name := "ytcahbcdikcjihaa", sum := "43c1d3e46c3746b57d5b3c7f662de8a7a3eed5094abc353438a3502b76809895", checked := Try.checked }
namespace Rows
def none {H : Type} : Left H := { results := [], args := [] }

/-- 'palimplaw8.SpanAll': WHATEVER THE INPUT: true; the input reads as it did. -/
def spanAllSpec : ChangeSpec := { name := "spanAll", fn := fun _ => fun
  | [d1, d2, d3, d4, d5] => { results := [.lit (.bool true)], args := [d1, d2, d3, d4, d5] }
  | _ => none }
def spanAllRow : OpenClaim := { program := "ytcahbcdikcjihaa", sum := "43c1d3e46c3746b57d5b3c7f662de8a7a3eed5094abc353438a3502b76809895", func := "palimp/palimplaw8.SpanAll", spec := "spanAll", unfollowed := true, recurses := true, apart := false }
def SpanAllSaid : Prop := spanAllRow.holds Try.pinned (OpenSpec.ofChange spanAllSpec)

/-- ITS FALSE NEIGHBOUR: 'it returns false'. Refute it at one input. -/
def spanAllWrong : ChangeSpec := { name := "spanAll", fn := fun _ => fun
  | [d1, d2, d3, d4, d5] => { results := [.lit (.bool false)], args := [d1, d2, d3, d4, d5] }
  | _ => none }
def SpanAllWrongFalsely : Prop := spanAllRow.holds Try.pinned (OpenSpec.ofChange spanAllWrong)

/-- 'palimplaw8.SpanSets': WHATEVER THE INPUT: true; the input reads as it did. -/
def spanSetsSpec : ChangeSpec := { name := "spanSets", fn := fun _ => fun
  | [d1, d2] => { results := [.lit (.bool true)], args := [d1, d2] }
  | _ => none }
def spanSetsRow : OpenClaim := { program := "ytcahbcdikcjihaa", sum := "43c1d3e46c3746b57d5b3c7f662de8a7a3eed5094abc353438a3502b76809895", func := "palimp/palimplaw8.SpanSets", spec := "spanSets", unfollowed := true, recurses := true, apart := false }
def SpanSetsSaid : Prop := spanSetsRow.holds Try.pinned (OpenSpec.ofChange spanSetsSpec)

/-- ITS FALSE NEIGHBOUR: 'it returns false'. Refute it at one input. -/
def spanSetsWrong : ChangeSpec := { name := "spanSets", fn := fun _ => fun
  | [d1, d2] => { results := [.lit (.bool false)], args := [d1, d2] }
  | _ => none }
def SpanSetsWrongFalsely : Prop := spanSetsRow.holds Try.pinned (OpenSpec.ofChange spanSetsWrong)

/-- 'palimplaw8.SpanOf': WHATEVER THE INPUT: true; the input reads as it did. -/
def spanOfSpec : ChangeSpec := { name := "spanOf", fn := fun _ => fun
  | [d1, d2] => { results := [.lit (.bool true)], args := [d1, d2] }
  | _ => none }
def spanOfRow : OpenClaim := { program := "ytcahbcdikcjihaa", sum := "43c1d3e46c3746b57d5b3c7f662de8a7a3eed5094abc353438a3502b76809895", func := "palimp/palimplaw8.SpanOf", spec := "spanOf", unfollowed := true, recurses := true, apart := false }
def SpanOfSaid : Prop := spanOfRow.holds Try.pinned (OpenSpec.ofChange spanOfSpec)

/-- ITS FALSE NEIGHBOUR: 'it returns false'. Refute it at one input. -/
def spanOfWrong : ChangeSpec := { name := "spanOf", fn := fun _ => fun
  | [d1, d2] => { results := [.lit (.bool false)], args := [d1, d2] }
  | _ => none }
def SpanOfWrongFalsely : Prop := spanOfRow.holds Try.pinned (OpenSpec.ofChange spanOfWrong)

/-- 'palimplaw8.SpanRules': WHATEVER THE INPUT: true; the input reads as it did. -/
def spanRulesSpec : ChangeSpec := { name := "spanRules", fn := fun _ => fun
  | [d1, d2, d3] => { results := [.lit (.bool true)], args := [d1, d2, d3] }
  | _ => none }
def spanRulesRow : OpenClaim := { program := "ytcahbcdikcjihaa", sum := "43c1d3e46c3746b57d5b3c7f662de8a7a3eed5094abc353438a3502b76809895", func := "palimp/palimplaw8.SpanRules", spec := "spanRules", unfollowed := true, recurses := true, apart := false }
def SpanRulesSaid : Prop := spanRulesRow.holds Try.pinned (OpenSpec.ofChange spanRulesSpec)

/-- ITS FALSE NEIGHBOUR: 'it returns false'. Refute it at one input. -/
def spanRulesWrong : ChangeSpec := { name := "spanRules", fn := fun _ => fun
  | [d1, d2, d3] => { results := [.lit (.bool false)], args := [d1, d2, d3] }
  | _ => none }
def SpanRulesWrongFalsely : Prop := spanRulesRow.holds Try.pinned (OpenSpec.ofChange spanRulesWrong)

/-- 'palimplaw8.SpanOne': WHATEVER THE INPUT: true; the input reads as it did. -/
def spanOneSpec : ChangeSpec := { name := "spanOne", fn := fun _ => fun
  | [d1, d2] => { results := [.lit (.bool true)], args := [d1, d2] }
  | _ => none }
def spanOneRow : OpenClaim := { program := "ytcahbcdikcjihaa", sum := "43c1d3e46c3746b57d5b3c7f662de8a7a3eed5094abc353438a3502b76809895", func := "palimp/palimplaw8.SpanOne", spec := "spanOne", unfollowed := true, recurses := true, apart := false }
def SpanOneSaid : Prop := spanOneRow.holds Try.pinned (OpenSpec.ofChange spanOneSpec)

/-- ITS FALSE NEIGHBOUR: 'it returns false'. Refute it at one input. -/
def spanOneWrong : ChangeSpec := { name := "spanOne", fn := fun _ => fun
  | [d1, d2] => { results := [.lit (.bool false)], args := [d1, d2] }
  | _ => none }
def SpanOneWrongFalsely : Prop := spanOneRow.holds Try.pinned (OpenSpec.ofChange spanOneWrong)

/-- 'palimplaw8.SpanFar': WHATEVER THE INPUT: true; the input reads as it did. -/
def spanFarSpec : ChangeSpec := { name := "spanFar", fn := fun _ => fun
  | [d1, d2, d3, d4] => { results := [.lit (.bool true)], args := [d1, d2, d3, d4] }
  | _ => none }
def spanFarRow : OpenClaim := { program := "ytcahbcdikcjihaa", sum := "43c1d3e46c3746b57d5b3c7f662de8a7a3eed5094abc353438a3502b76809895", func := "palimp/palimplaw8.SpanFar", spec := "spanFar", unfollowed := true, recurses := true, apart := false }
def SpanFarSaid : Prop := spanFarRow.holds Try.pinned (OpenSpec.ofChange spanFarSpec)

/-- ITS FALSE NEIGHBOUR: 'it returns false'. Refute it at one input. -/
def spanFarWrong : ChangeSpec := { name := "spanFar", fn := fun _ => fun
  | [d1, d2, d3, d4] => { results := [.lit (.bool false)], args := [d1, d2, d3, d4] }
  | _ => none }
def SpanFarWrongFalsely : Prop := spanFarRow.holds Try.pinned (OpenSpec.ofChange spanFarWrong)

/-- 'palimplaw8.SpanForms': WHATEVER THE INPUT: true; the input reads as it did. -/
def spanFormsSpec : ChangeSpec := { name := "spanForms", fn := fun _ => fun
  | [] => { results := [.lit (.bool true)], args := [] }
  | _ => none }
def spanFormsRow : OpenClaim := { program := "ytcahbcdikcjihaa", sum := "43c1d3e46c3746b57d5b3c7f662de8a7a3eed5094abc353438a3502b76809895", func := "palimp/palimplaw8.SpanForms", spec := "spanForms", unfollowed := true, recurses := true, apart := false }
def SpanFormsSaid : Prop := spanFormsRow.holds Try.pinned (OpenSpec.ofChange spanFormsSpec)

/-- ITS FALSE NEIGHBOUR: 'it returns false'. Refute it at one input. -/
def spanFormsWrong : ChangeSpec := { name := "spanForms", fn := fun _ => fun
  | [] => { results := [.lit (.bool false)], args := [] }
  | _ => none }
def SpanFormsWrongFalsely : Prop := spanFormsRow.holds Try.pinned (OpenSpec.ofChange spanFormsWrong)

/- THE SECOND FORM. 'bulk': how many values and letters a reading holds, each counted each time it is reached (what is shared counts as often as it is met; a slice's spare places count too). A statement '..UptoSaid' is the law's where the arguments, and the package variables that the reading takes, are together of bulk at most 1048576: NARROWER than '..Said'. Prove '..Said' where nothing that the law and all that it calls make is longer than what came in: it says more and counts as full. Else prove '..UptoSaid'. A law counts once. -/
mutual
def uptoBulk {H : Type} : DataW H → Nat
  | .lit (.string bytes) => bytes.length + 1
  | .lit _ => 1
  | .nil => 1
  | .ptr d => uptoBulk d + 1
  | .slice elems spare => uptoBulkAll elems + uptoBulkAll spare + 1
  | .agg parts => uptoBulkAll parts + 1
  | .iface _ d => uptoBulk d + 1
  | .map entries => uptoBulkEntries entries + 1
  | .held _ => 1
def uptoBulkAll {H : Type} : List (DataW H) → Nat
  | [] => 0
  | d :: r => uptoBulk d + uptoBulkAll r
def uptoBulkEntries {H : Type} : List (Lit × DataW H) → Nat
  | [] => 0
  | x :: r => uptoBulkEntry x + uptoBulkEntries r
def uptoBulkEntry {H : Type} : Lit × DataW H → Nat
  | (.string bytes, d) => bytes.length + uptoBulk d + 1
  | (_, d) => uptoBulk d + 1
 end
def uptoSmall : (H : Type) → List (DataW H) → Bool := fun _ ds => decide (uptoBulkAll ds ≤ 1048576)
def OpenSpec.upto (s : _root_.Go.ChangeSpec) : _root_.Go.OpenSpec := { _root_.Go.OpenSpec.ofChange s with cond := some uptoSmall }

/-- 'palimplaw8.SpanAll', WHERE WHAT IT READS IS OF BULK AT MOST 1048576: true; the input reads as it did. -/
def spanAllUptoRow : OpenClaim := { program := "ytcahbcdikcjihaa", sum := "43c1d3e46c3746b57d5b3c7f662de8a7a3eed5094abc353438a3502b76809895", func := "palimp/palimplaw8.SpanAll", spec := "spanAll", unfollowed := true, recurses := true, apart := false, narrowed := true }
def SpanAllUptoSaid : Prop := spanAllUptoRow.holds Try.pinned (OpenSpec.upto spanAllSpec)

/-- 'palimplaw8.SpanSets', WHERE WHAT IT READS IS OF BULK AT MOST 1048576: true; the input reads as it did. -/
def spanSetsUptoRow : OpenClaim := { program := "ytcahbcdikcjihaa", sum := "43c1d3e46c3746b57d5b3c7f662de8a7a3eed5094abc353438a3502b76809895", func := "palimp/palimplaw8.SpanSets", spec := "spanSets", unfollowed := true, recurses := true, apart := false, narrowed := true }
def SpanSetsUptoSaid : Prop := spanSetsUptoRow.holds Try.pinned (OpenSpec.upto spanSetsSpec)

/-- 'palimplaw8.SpanOf', WHERE WHAT IT READS IS OF BULK AT MOST 1048576: true; the input reads as it did. -/
def spanOfUptoRow : OpenClaim := { program := "ytcahbcdikcjihaa", sum := "43c1d3e46c3746b57d5b3c7f662de8a7a3eed5094abc353438a3502b76809895", func := "palimp/palimplaw8.SpanOf", spec := "spanOf", unfollowed := true, recurses := true, apart := false, narrowed := true }
def SpanOfUptoSaid : Prop := spanOfUptoRow.holds Try.pinned (OpenSpec.upto spanOfSpec)

/-- 'palimplaw8.SpanRules', WHERE WHAT IT READS IS OF BULK AT MOST 1048576: true; the input reads as it did. -/
def spanRulesUptoRow : OpenClaim := { program := "ytcahbcdikcjihaa", sum := "43c1d3e46c3746b57d5b3c7f662de8a7a3eed5094abc353438a3502b76809895", func := "palimp/palimplaw8.SpanRules", spec := "spanRules", unfollowed := true, recurses := true, apart := false, narrowed := true }
def SpanRulesUptoSaid : Prop := spanRulesUptoRow.holds Try.pinned (OpenSpec.upto spanRulesSpec)

/-- 'palimplaw8.SpanOne', WHERE WHAT IT READS IS OF BULK AT MOST 1048576: true; the input reads as it did. -/
def spanOneUptoRow : OpenClaim := { program := "ytcahbcdikcjihaa", sum := "43c1d3e46c3746b57d5b3c7f662de8a7a3eed5094abc353438a3502b76809895", func := "palimp/palimplaw8.SpanOne", spec := "spanOne", unfollowed := true, recurses := true, apart := false, narrowed := true }
def SpanOneUptoSaid : Prop := spanOneUptoRow.holds Try.pinned (OpenSpec.upto spanOneSpec)

/-- 'palimplaw8.SpanFar', WHERE WHAT IT READS IS OF BULK AT MOST 1048576: true; the input reads as it did. -/
def spanFarUptoRow : OpenClaim := { program := "ytcahbcdikcjihaa", sum := "43c1d3e46c3746b57d5b3c7f662de8a7a3eed5094abc353438a3502b76809895", func := "palimp/palimplaw8.SpanFar", spec := "spanFar", unfollowed := true, recurses := true, apart := false, narrowed := true }
def SpanFarUptoSaid : Prop := spanFarUptoRow.holds Try.pinned (OpenSpec.upto spanFarSpec)

/-- 'palimplaw8.SpanForms', WHERE WHAT IT READS IS OF BULK AT MOST 1048576: true; the input reads as it did. -/
def spanFormsUptoRow : OpenClaim := { program := "ytcahbcdikcjihaa", sum := "43c1d3e46c3746b57d5b3c7f662de8a7a3eed5094abc353438a3502b76809895", func := "palimp/palimplaw8.SpanForms", spec := "spanForms", unfollowed := true, recurses := true, apart := false, narrowed := true }
def SpanFormsUptoSaid : Prop := spanFormsUptoRow.holds Try.pinned (OpenSpec.upto spanFormsSpec)

end Rows
end Go.Proofs.Ytcahbcdikcjihaa
