/-
  No cell of these rows narrows 'for every input' (looked for: loops, veiled, ifaces, maps, wideKeys, modest, calm, conditions, laid).
  DERIVED. THE GIVEN ROWS OF THIS SEAT. 9 by the template 'for every input the law returns true; each argument reads behind the call as it read before'; 0 by the template 'total and deterministic' (their statements: YtpdjpemmdjeabaaTotals.lean).
  GIVEN WITH THE SEED: the statements are not yours to turn. If you find one false, say at which input.
  Laid BY PROGRAM, IN A SANDBOX (cutbox-rows.mjs): the forced cells as the released guide's own fill.sh prints them over the translation 0d3e61be8c9c1e3b… (all of the seat's roots in one cut). By AI agents, Wed Nov 11 2026. No macro, syntax, notation, axiom, sorry.
-/
import Derived.Test.YtpdjpemmdjeabaaChecked
import GoSem.Claim
import GoSem.ClaimJoined
import GoSem.ClaimMapViews
import Derived.JoinedTies
import Derived.KernelRfl
namespace Go.Proofs.Ytpdjpemmdjeabaa
/- THE CELL 'sum', in the pinned program and in every row, IS THE sha256 OF THE DUMP (.gsa) THAT YtpdjpemmdjeabaaProg.lean LOADS. Nothing in Lean hashes anything: it is a label: what it is worth is what the hold of that sum in a sandbox is worth. -/
noncomputable def Try.pinned : Pinned := { name := "ytpdjpemmdjeabaa", sum := "0d3e61be8c9c1e3bc6d76541b011277ce6eec67c733552890d12f1ba3b10aa60", checked := Try.checked }
namespace Rows
def none {H : Type} : Left H := { results := [], args := [] }

/-- 'palimplaw1.DevHalves': WHATEVER THE INPUT: true; the input reads as it did. -/
def devHalvesSpec : ChangeSpec := { name := "devHalves", fn := fun _ => fun
  | [d1, d2, d3] => { results := [.lit (.bool true)], args := [d1, d2, d3] }
  | _ => none }
def devHalvesRow : OpenClaim := { program := "ytpdjpemmdjeabaa", sum := "0d3e61be8c9c1e3bc6d76541b011277ce6eec67c733552890d12f1ba3b10aa60", func := "palimp/palimplaw1.DevHalves", spec := "devHalves", unfollowed := true, recurses := true, apart := false }
def DevHalvesSaid : Prop := devHalvesRow.holds Try.pinned (OpenSpec.ofChange devHalvesSpec)

/-- ITS FALSE NEIGHBOUR: 'it returns false'. Refute it at one input. -/
def devHalvesWrong : ChangeSpec := { name := "devHalves", fn := fun _ => fun
  | [d1, d2, d3] => { results := [.lit (.bool false)], args := [d1, d2, d3] }
  | _ => none }
def DevHalvesWrongFalsely : Prop := devHalvesRow.holds Try.pinned (OpenSpec.ofChange devHalvesWrong)

/-- 'palimplaw1.DevLies': WHATEVER THE INPUT: true; the input reads as it did. -/
def devLiesSpec : ChangeSpec := { name := "devLies", fn := fun _ => fun
  | [d1, d2, d3] => { results := [.lit (.bool true)], args := [d1, d2, d3] }
  | _ => none }
def devLiesRow : OpenClaim := { program := "ytpdjpemmdjeabaa", sum := "0d3e61be8c9c1e3bc6d76541b011277ce6eec67c733552890d12f1ba3b10aa60", func := "palimp/palimplaw1.DevLies", spec := "devLies", unfollowed := true, recurses := true, apart := false }
def DevLiesSaid : Prop := devLiesRow.holds Try.pinned (OpenSpec.ofChange devLiesSpec)

/-- ITS FALSE NEIGHBOUR: 'it returns false'. Refute it at one input. -/
def devLiesWrong : ChangeSpec := { name := "devLies", fn := fun _ => fun
  | [d1, d2, d3] => { results := [.lit (.bool false)], args := [d1, d2, d3] }
  | _ => none }
def DevLiesWrongFalsely : Prop := devLiesRow.holds Try.pinned (OpenSpec.ofChange devLiesWrong)

/-- 'palimplaw1.DevArms': WHATEVER THE INPUT: true; the input reads as it did. -/
def devArmsSpec : ChangeSpec := { name := "devArms", fn := fun _ => fun
  | [d1, d2] => { results := [.lit (.bool true)], args := [d1, d2] }
  | _ => none }
def devArmsRow : OpenClaim := { program := "ytpdjpemmdjeabaa", sum := "0d3e61be8c9c1e3bc6d76541b011277ce6eec67c733552890d12f1ba3b10aa60", func := "palimp/palimplaw1.DevArms", spec := "devArms", unfollowed := true, recurses := true, apart := false }
def DevArmsSaid : Prop := devArmsRow.holds Try.pinned (OpenSpec.ofChange devArmsSpec)

/-- ITS FALSE NEIGHBOUR: 'it returns false'. Refute it at one input. -/
def devArmsWrong : ChangeSpec := { name := "devArms", fn := fun _ => fun
  | [d1, d2] => { results := [.lit (.bool false)], args := [d1, d2] }
  | _ => none }
def DevArmsWrongFalsely : Prop := devArmsRow.holds Try.pinned (OpenSpec.ofChange devArmsWrong)

/-- 'palimplaw1.DevOne': WHATEVER THE INPUT: true; the input reads as it did. -/
def devOneSpec : ChangeSpec := { name := "devOne", fn := fun _ => fun
  | [d1, d2] => { results := [.lit (.bool true)], args := [d1, d2] }
  | _ => none }
def devOneRow : OpenClaim := { program := "ytpdjpemmdjeabaa", sum := "0d3e61be8c9c1e3bc6d76541b011277ce6eec67c733552890d12f1ba3b10aa60", func := "palimp/palimplaw1.DevOne", spec := "devOne", unfollowed := true, recurses := true, apart := false }
def DevOneSaid : Prop := devOneRow.holds Try.pinned (OpenSpec.ofChange devOneSpec)

/-- ITS FALSE NEIGHBOUR: 'it returns false'. Refute it at one input. -/
def devOneWrong : ChangeSpec := { name := "devOne", fn := fun _ => fun
  | [d1, d2] => { results := [.lit (.bool false)], args := [d1, d2] }
  | _ => none }
def DevOneWrongFalsely : Prop := devOneRow.holds Try.pinned (OpenSpec.ofChange devOneWrong)

/-- 'palimplaw1.DevCuts': WHATEVER THE INPUT: true; the input reads as it did. -/
def devCutsSpec : ChangeSpec := { name := "devCuts", fn := fun _ => fun
  | [d1, d2] => { results := [.lit (.bool true)], args := [d1, d2] }
  | _ => none }
def devCutsRow : OpenClaim := { program := "ytpdjpemmdjeabaa", sum := "0d3e61be8c9c1e3bc6d76541b011277ce6eec67c733552890d12f1ba3b10aa60", func := "palimp/palimplaw1.DevCuts", spec := "devCuts", unfollowed := true, recurses := true, apart := false }
def DevCutsSaid : Prop := devCutsRow.holds Try.pinned (OpenSpec.ofChange devCutsSpec)

/-- ITS FALSE NEIGHBOUR: 'it returns false'. Refute it at one input. -/
def devCutsWrong : ChangeSpec := { name := "devCuts", fn := fun _ => fun
  | [d1, d2] => { results := [.lit (.bool false)], args := [d1, d2] }
  | _ => none }
def DevCutsWrongFalsely : Prop := devCutsRow.holds Try.pinned (OpenSpec.ofChange devCutsWrong)

/-- 'palimplaw1.DevAll': WHATEVER THE INPUT: true; the input reads as it did. -/
def devAllSpec : ChangeSpec := { name := "devAll", fn := fun _ => fun
  | [d1, d2, d3, d4, d5] => { results := [.lit (.bool true)], args := [d1, d2, d3, d4, d5] }
  | _ => none }
def devAllRow : OpenClaim := { program := "ytpdjpemmdjeabaa", sum := "0d3e61be8c9c1e3bc6d76541b011277ce6eec67c733552890d12f1ba3b10aa60", func := "palimp/palimplaw1.DevAll", spec := "devAll", unfollowed := true, recurses := true, apart := false }
def DevAllSaid : Prop := devAllRow.holds Try.pinned (OpenSpec.ofChange devAllSpec)

/-- ITS FALSE NEIGHBOUR: 'it returns false'. Refute it at one input. -/
def devAllWrong : ChangeSpec := { name := "devAll", fn := fun _ => fun
  | [d1, d2, d3, d4, d5] => { results := [.lit (.bool false)], args := [d1, d2, d3, d4, d5] }
  | _ => none }
def DevAllWrongFalsely : Prop := devAllRow.holds Try.pinned (OpenSpec.ofChange devAllWrong)

/-- 'palimplaw1.DevForms': WHATEVER THE INPUT: true; the input reads as it did. -/
def devFormsSpec : ChangeSpec := { name := "devForms", fn := fun _ => fun
  | [] => { results := [.lit (.bool true)], args := [] }
  | _ => none }
def devFormsRow : OpenClaim := { program := "ytpdjpemmdjeabaa", sum := "0d3e61be8c9c1e3bc6d76541b011277ce6eec67c733552890d12f1ba3b10aa60", func := "palimp/palimplaw1.DevForms", spec := "devForms", unfollowed := true, recurses := true, apart := false }
def DevFormsSaid : Prop := devFormsRow.holds Try.pinned (OpenSpec.ofChange devFormsSpec)

/-- ITS FALSE NEIGHBOUR: 'it returns false'. Refute it at one input. -/
def devFormsWrong : ChangeSpec := { name := "devForms", fn := fun _ => fun
  | [] => { results := [.lit (.bool false)], args := [] }
  | _ => none }
def DevFormsWrongFalsely : Prop := devFormsRow.holds Try.pinned (OpenSpec.ofChange devFormsWrong)

/-- 'palimplaw1.DevTurns': WHATEVER THE INPUT: true; the input reads as it did. -/
def devTurnsSpec : ChangeSpec := { name := "devTurns", fn := fun _ => fun
  | [d1, d2, d3, d4, d5] => { results := [.lit (.bool true)], args := [d1, d2, d3, d4, d5] }
  | _ => none }
def devTurnsRow : OpenClaim := { program := "ytpdjpemmdjeabaa", sum := "0d3e61be8c9c1e3bc6d76541b011277ce6eec67c733552890d12f1ba3b10aa60", func := "palimp/palimplaw1.DevTurns", spec := "devTurns", unfollowed := true, recurses := true, apart := false }
def DevTurnsSaid : Prop := devTurnsRow.holds Try.pinned (OpenSpec.ofChange devTurnsSpec)

/-- ITS FALSE NEIGHBOUR: 'it returns false'. Refute it at one input. -/
def devTurnsWrong : ChangeSpec := { name := "devTurns", fn := fun _ => fun
  | [d1, d2, d3, d4, d5] => { results := [.lit (.bool false)], args := [d1, d2, d3, d4, d5] }
  | _ => none }
def DevTurnsWrongFalsely : Prop := devTurnsRow.holds Try.pinned (OpenSpec.ofChange devTurnsWrong)

/-- 'palimplaw1.DevOld': WHATEVER THE INPUT: true; the input reads as it did. -/
def devOldSpec : ChangeSpec := { name := "devOld", fn := fun _ => fun
  | [d1, d2, d3] => { results := [.lit (.bool true)], args := [d1, d2, d3] }
  | _ => none }
def devOldRow : OpenClaim := { program := "ytpdjpemmdjeabaa", sum := "0d3e61be8c9c1e3bc6d76541b011277ce6eec67c733552890d12f1ba3b10aa60", func := "palimp/palimplaw1.DevOld", spec := "devOld", unfollowed := true, recurses := true, apart := false }
def DevOldSaid : Prop := devOldRow.holds Try.pinned (OpenSpec.ofChange devOldSpec)

/-- ITS FALSE NEIGHBOUR: 'it returns false'. Refute it at one input. -/
def devOldWrong : ChangeSpec := { name := "devOld", fn := fun _ => fun
  | [d1, d2, d3] => { results := [.lit (.bool false)], args := [d1, d2, d3] }
  | _ => none }
def DevOldWrongFalsely : Prop := devOldRow.holds Try.pinned (OpenSpec.ofChange devOldWrong)

/- THE SECOND FORM. 'bulk': how many values and letters a reading holds, each counted each time it is reached (what is shared counts as often as it is met; a slice's spare places count too). A statement '..UptoSaid' is the law's where the arguments, and the package variables that the reading takes, are together of bulk at most 1048576: NARROWER than '..Said'. Prove '..Said' where nothing that the law and all that it calls make is longer than what came in: it says more and counts as full. Else prove '..UptoSaid'. A law counts once. -/
mutual
def uptoBulk {H : Type} : DataW H → Nat
  | .lit (.string bytes) => bytes.length + 1
  | .lit _ => 1
  | .nil => 1
  | .ptr d => uptoBulk d + 1
  | .slice elems spare => uptoBulkAll elems + uptoBulkAll spare + 1
  | .agg parts => uptoBulkAll parts + 1
  | .iface _ d => uptoBulk d + 1
  | .map entries => uptoBulkEntries entries + 1
  | .held _ => 1
def uptoBulkAll {H : Type} : List (DataW H) → Nat
  | [] => 0
  | d :: r => uptoBulk d + uptoBulkAll r
def uptoBulkEntries {H : Type} : List (Lit × DataW H) → Nat
  | [] => 0
  | x :: r => uptoBulkEntry x + uptoBulkEntries r
def uptoBulkEntry {H : Type} : Lit × DataW H → Nat
  | (.string bytes, d) => bytes.length + uptoBulk d + 1
  | (_, d) => uptoBulk d + 1
 end
def uptoSmall : (H : Type) → List (DataW H) → Bool := fun _ ds => decide (uptoBulkAll ds ≤ 1048576)
def OpenSpec.upto (s : _root_.Go.ChangeSpec) : _root_.Go.OpenSpec := { _root_.Go.OpenSpec.ofChange s with cond := some uptoSmall }

/-- 'palimplaw1.DevHalves', WHERE WHAT IT READS IS OF BULK AT MOST 1048576: true; the input reads as it did. -/
def devHalvesUptoRow : OpenClaim := { program := "ytpdjpemmdjeabaa", sum := "0d3e61be8c9c1e3bc6d76541b011277ce6eec67c733552890d12f1ba3b10aa60", func := "palimp/palimplaw1.DevHalves", spec := "devHalves", unfollowed := true, recurses := true, apart := false, narrowed := true }
def DevHalvesUptoSaid : Prop := devHalvesUptoRow.holds Try.pinned (OpenSpec.upto devHalvesSpec)

/-- 'palimplaw1.DevLies', WHERE WHAT IT READS IS OF BULK AT MOST 1048576: true; the input reads as it did. -/
def devLiesUptoRow : OpenClaim := { program := "ytpdjpemmdjeabaa", sum := "0d3e61be8c9c1e3bc6d76541b011277ce6eec67c733552890d12f1ba3b10aa60", func := "palimp/palimplaw1.DevLies", spec := "devLies", unfollowed := true, recurses := true, apart := false, narrowed := true }
def DevLiesUptoSaid : Prop := devLiesUptoRow.holds Try.pinned (OpenSpec.upto devLiesSpec)

/-- 'palimplaw1.DevArms', WHERE WHAT IT READS IS OF BULK AT MOST 1048576: true; the input reads as it did. -/
def devArmsUptoRow : OpenClaim := { program := "ytpdjpemmdjeabaa", sum := "0d3e61be8c9c1e3bc6d76541b011277ce6eec67c733552890d12f1ba3b10aa60", func := "palimp/palimplaw1.DevArms", spec := "devArms", unfollowed := true, recurses := true, apart := false, narrowed := true }
def DevArmsUptoSaid : Prop := devArmsUptoRow.holds Try.pinned (OpenSpec.upto devArmsSpec)

/-- 'palimplaw1.DevOne', WHERE WHAT IT READS IS OF BULK AT MOST 1048576: true; the input reads as it did. -/
def devOneUptoRow : OpenClaim := { program := "ytpdjpemmdjeabaa", sum := "0d3e61be8c9c1e3bc6d76541b011277ce6eec67c733552890d12f1ba3b10aa60", func := "palimp/palimplaw1.DevOne", spec := "devOne", unfollowed := true, recurses := true, apart := false, narrowed := true }
def DevOneUptoSaid : Prop := devOneUptoRow.holds Try.pinned (OpenSpec.upto devOneSpec)

/-- 'palimplaw1.DevCuts', WHERE WHAT IT READS IS OF BULK AT MOST 1048576: true; the input reads as it did. -/
def devCutsUptoRow : OpenClaim := { program := "ytpdjpemmdjeabaa", sum := "0d3e61be8c9c1e3bc6d76541b011277ce6eec67c733552890d12f1ba3b10aa60", func := "palimp/palimplaw1.DevCuts", spec := "devCuts", unfollowed := true, recurses := true, apart := false, narrowed := true }
def DevCutsUptoSaid : Prop := devCutsUptoRow.holds Try.pinned (OpenSpec.upto devCutsSpec)

/-- 'palimplaw1.DevAll', WHERE WHAT IT READS IS OF BULK AT MOST 1048576: true; the input reads as it did. -/
def devAllUptoRow : OpenClaim := { program := "ytpdjpemmdjeabaa", sum := "0d3e61be8c9c1e3bc6d76541b011277ce6eec67c733552890d12f1ba3b10aa60", func := "palimp/palimplaw1.DevAll", spec := "devAll", unfollowed := true, recurses := true, apart := false, narrowed := true }
def DevAllUptoSaid : Prop := devAllUptoRow.holds Try.pinned (OpenSpec.upto devAllSpec)

/-- 'palimplaw1.DevForms', WHERE WHAT IT READS IS OF BULK AT MOST 1048576: true; the input reads as it did. -/
def devFormsUptoRow : OpenClaim := { program := "ytpdjpemmdjeabaa", sum := "0d3e61be8c9c1e3bc6d76541b011277ce6eec67c733552890d12f1ba3b10aa60", func := "palimp/palimplaw1.DevForms", spec := "devForms", unfollowed := true, recurses := true, apart := false, narrowed := true }
def DevFormsUptoSaid : Prop := devFormsUptoRow.holds Try.pinned (OpenSpec.upto devFormsSpec)

/-- 'palimplaw1.DevTurns', WHERE WHAT IT READS IS OF BULK AT MOST 1048576: true; the input reads as it did. -/
def devTurnsUptoRow : OpenClaim := { program := "ytpdjpemmdjeabaa", sum := "0d3e61be8c9c1e3bc6d76541b011277ce6eec67c733552890d12f1ba3b10aa60", func := "palimp/palimplaw1.DevTurns", spec := "devTurns", unfollowed := true, recurses := true, apart := false, narrowed := true }
def DevTurnsUptoSaid : Prop := devTurnsUptoRow.holds Try.pinned (OpenSpec.upto devTurnsSpec)

/-- 'palimplaw1.DevOld', WHERE WHAT IT READS IS OF BULK AT MOST 1048576: true; the input reads as it did. -/
def devOldUptoRow : OpenClaim := { program := "ytpdjpemmdjeabaa", sum := "0d3e61be8c9c1e3bc6d76541b011277ce6eec67c733552890d12f1ba3b10aa60", func := "palimp/palimplaw1.DevOld", spec := "devOld", unfollowed := true, recurses := true, apart := false, narrowed := true }
def DevOldUptoSaid : Prop := devOldUptoRow.holds Try.pinned (OpenSpec.upto devOldSpec)

end Rows
end Go.Proofs.Ytpdjpemmdjeabaa
