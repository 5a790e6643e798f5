/-
  No cell of these rows narrows 'for every input' (looked for: loops, veiled, ifaces, maps, wideKeys, modest, calm, conditions, laid).
  DERIVED. THE GIVEN ROWS OF THIS SEAT. 5 by the template 'for every input the law returns true; each argument reads behind the call as it read before'; 0 by the template 'total and deterministic' (their statements: YtlfncfaonnaneaaTotals.lean).
  GIVEN WITH THE SEED: the statements are not yours to turn. If you find one false, say at which input.
  Laid BY PROGRAM, IN A SANDBOX (cutbox-rows.mjs): the forced cells as the released guide's own fill.sh prints them over the translation cc39bd12207dd327… (all of the seat's roots in one cut). By AI agents, Wed Nov 11 2026. No macro, syntax, notation, axiom, sorry.
-/
import Derived.Test.YtlfncfaonnaneaaChecked
import GoSem.Claim
import GoSem.ClaimJoined
import GoSem.ClaimMapViews
import Derived.JoinedTies
import Derived.KernelRfl
namespace Go.Proofs.Ytlfncfaonnaneaa
/- THE CELL 'sum', in the pinned program and in every row, IS THE sha256 OF THE DUMP (.gsa) THAT YtlfncfaonnaneaaProg.lean LOADS. Nothing in Lean hashes anything: it is a label: what it is worth is what the hold of that sum in a sandbox is worth. -/
noncomputable def Try.pinned : Pinned := { name := "ytlfncfaonnaneaa", sum := "cc39bd12207dd32752eaf2240ec1ac6520893d7a112723ea981184e684f1d58d", checked := Try.checked }
namespace Rows
def none {H : Type} : Left H := { results := [], args := [] }

/-- 'palimplaw9.MapAll': WHATEVER THE INPUT: true; the input reads as it did. -/
def mapAllSpec : ChangeSpec := { name := "mapAll", fn := fun _ => fun
  | [d1, d2, d3, d4, d5] => { results := [.lit (.bool true)], args := [d1, d2, d3, d4, d5] }
  | _ => none }
def mapAllRow : OpenClaim := { program := "ytlfncfaonnaneaa", sum := "cc39bd12207dd32752eaf2240ec1ac6520893d7a112723ea981184e684f1d58d", func := "palimp/palimplaw9.MapAll", spec := "mapAll", unfollowed := true, recurses := true, apart := false }
def MapAllSaid : Prop := mapAllRow.holds Try.pinned (OpenSpec.ofChange mapAllSpec)

/-- ITS FALSE NEIGHBOUR: 'it returns false'. Refute it at one input. -/
def mapAllWrong : ChangeSpec := { name := "mapAll", fn := fun _ => fun
  | [d1, d2, d3, d4, d5] => { results := [.lit (.bool false)], args := [d1, d2, d3, d4, d5] }
  | _ => none }
def MapAllWrongFalsely : Prop := mapAllRow.holds Try.pinned (OpenSpec.ofChange mapAllWrong)

/-- 'palimplaw9.MapBack': WHATEVER THE INPUT: true; the input reads as it did. -/
def mapBackSpec : ChangeSpec := { name := "mapBack", fn := fun _ => fun
  | [d1, d2, d3, d4] => { results := [.lit (.bool true)], args := [d1, d2, d3, d4] }
  | _ => none }
def mapBackRow : OpenClaim := { program := "ytlfncfaonnaneaa", sum := "cc39bd12207dd32752eaf2240ec1ac6520893d7a112723ea981184e684f1d58d", func := "palimp/palimplaw9.MapBack", spec := "mapBack", unfollowed := true, recurses := true, apart := false }
def MapBackSaid : Prop := mapBackRow.holds Try.pinned (OpenSpec.ofChange mapBackSpec)

/-- ITS FALSE NEIGHBOUR: 'it returns false'. Refute it at one input. -/
def mapBackWrong : ChangeSpec := { name := "mapBack", fn := fun _ => fun
  | [d1, d2, d3, d4] => { results := [.lit (.bool false)], args := [d1, d2, d3, d4] }
  | _ => none }
def MapBackWrongFalsely : Prop := mapBackRow.holds Try.pinned (OpenSpec.ofChange mapBackWrong)

/-- 'palimplaw9.MapForms': WHATEVER THE INPUT: true; the input reads as it did. -/
def mapFormsSpec : ChangeSpec := { name := "mapForms", fn := fun _ => fun
  | [] => { results := [.lit (.bool true)], args := [] }
  | _ => none }
def mapFormsRow : OpenClaim := { program := "ytlfncfaonnaneaa", sum := "cc39bd12207dd32752eaf2240ec1ac6520893d7a112723ea981184e684f1d58d", func := "palimp/palimplaw9.MapForms", spec := "mapForms", unfollowed := true, recurses := true, apart := false }
def MapFormsSaid : Prop := mapFormsRow.holds Try.pinned (OpenSpec.ofChange mapFormsSpec)

/-- ITS FALSE NEIGHBOUR: 'it returns false'. Refute it at one input. -/
def mapFormsWrong : ChangeSpec := { name := "mapForms", fn := fun _ => fun
  | [] => { results := [.lit (.bool false)], args := [] }
  | _ => none }
def MapFormsWrongFalsely : Prop := mapFormsRow.holds Try.pinned (OpenSpec.ofChange mapFormsWrong)

/-- 'palimplaw9.MapJoins': WHATEVER THE INPUT: true; the input reads as it did. -/
def mapJoinsSpec : ChangeSpec := { name := "mapJoins", fn := fun _ => fun
  | [d1, d2] => { results := [.lit (.bool true)], args := [d1, d2] }
  | _ => none }
def mapJoinsRow : OpenClaim := { program := "ytlfncfaonnaneaa", sum := "cc39bd12207dd32752eaf2240ec1ac6520893d7a112723ea981184e684f1d58d", func := "palimp/palimplaw9.MapJoins", spec := "mapJoins", unfollowed := true, recurses := true, apart := false }
def MapJoinsSaid : Prop := mapJoinsRow.holds Try.pinned (OpenSpec.ofChange mapJoinsSpec)

/-- ITS FALSE NEIGHBOUR: 'it returns false'. Refute it at one input. -/
def mapJoinsWrong : ChangeSpec := { name := "mapJoins", fn := fun _ => fun
  | [d1, d2] => { results := [.lit (.bool false)], args := [d1, d2] }
  | _ => none }
def MapJoinsWrongFalsely : Prop := mapJoinsRow.holds Try.pinned (OpenSpec.ofChange mapJoinsWrong)

/-- 'palimplaw9.MapBit': WHATEVER THE INPUT: true; the input reads as it did. -/
def mapBitSpec : ChangeSpec := { name := "mapBit", fn := fun _ => fun
  | [d1, d2] => { results := [.lit (.bool true)], args := [d1, d2] }
  | _ => none }
def mapBitRow : OpenClaim := { program := "ytlfncfaonnaneaa", sum := "cc39bd12207dd32752eaf2240ec1ac6520893d7a112723ea981184e684f1d58d", func := "palimp/palimplaw9.MapBit", spec := "mapBit", unfollowed := true, recurses := true, apart := false }
def MapBitSaid : Prop := mapBitRow.holds Try.pinned (OpenSpec.ofChange mapBitSpec)

/-- ITS FALSE NEIGHBOUR: 'it returns false'. Refute it at one input. -/
def mapBitWrong : ChangeSpec := { name := "mapBit", fn := fun _ => fun
  | [d1, d2] => { results := [.lit (.bool false)], args := [d1, d2] }
  | _ => none }
def MapBitWrongFalsely : Prop := mapBitRow.holds Try.pinned (OpenSpec.ofChange mapBitWrong)

/- THE SECOND FORM. 'bulk': how many values and letters a reading holds, each counted each time it is reached (what is shared counts as often as it is met; a slice's spare places count too). A statement '..UptoSaid' is the law's where the arguments, and the package variables that the reading takes, are together of bulk at most 1048576: NARROWER than '..Said'. Prove '..Said' where nothing that the law and all that it calls make is longer than what came in: it says more and counts as full. Else prove '..UptoSaid'. A law counts once. -/
mutual
def uptoBulk {H : Type} : DataW H → Nat
  | .lit (.string bytes) => bytes.length + 1
  | .lit _ => 1
  | .nil => 1
  | .ptr d => uptoBulk d + 1
  | .slice elems spare => uptoBulkAll elems + uptoBulkAll spare + 1
  | .agg parts => uptoBulkAll parts + 1
  | .iface _ d => uptoBulk d + 1
  | .map entries => uptoBulkEntries entries + 1
  | .held _ => 1
def uptoBulkAll {H : Type} : List (DataW H) → Nat
  | [] => 0
  | d :: r => uptoBulk d + uptoBulkAll r
def uptoBulkEntries {H : Type} : List (Lit × DataW H) → Nat
  | [] => 0
  | x :: r => uptoBulkEntry x + uptoBulkEntries r
def uptoBulkEntry {H : Type} : Lit × DataW H → Nat
  | (.string bytes, d) => bytes.length + uptoBulk d + 1
  | (_, d) => uptoBulk d + 1
 end
def uptoSmall : (H : Type) → List (DataW H) → Bool := fun _ ds => decide (uptoBulkAll ds ≤ 1048576)
def OpenSpec.upto (s : _root_.Go.ChangeSpec) : _root_.Go.OpenSpec := { _root_.Go.OpenSpec.ofChange s with cond := some uptoSmall }

/-- 'palimplaw9.MapAll', WHERE WHAT IT READS IS OF BULK AT MOST 1048576: true; the input reads as it did. -/
def mapAllUptoRow : OpenClaim := { program := "ytlfncfaonnaneaa", sum := "cc39bd12207dd32752eaf2240ec1ac6520893d7a112723ea981184e684f1d58d", func := "palimp/palimplaw9.MapAll", spec := "mapAll", unfollowed := true, recurses := true, apart := false, narrowed := true }
def MapAllUptoSaid : Prop := mapAllUptoRow.holds Try.pinned (OpenSpec.upto mapAllSpec)

/-- 'palimplaw9.MapBack', WHERE WHAT IT READS IS OF BULK AT MOST 1048576: true; the input reads as it did. -/
def mapBackUptoRow : OpenClaim := { program := "ytlfncfaonnaneaa", sum := "cc39bd12207dd32752eaf2240ec1ac6520893d7a112723ea981184e684f1d58d", func := "palimp/palimplaw9.MapBack", spec := "mapBack", unfollowed := true, recurses := true, apart := false, narrowed := true }
def MapBackUptoSaid : Prop := mapBackUptoRow.holds Try.pinned (OpenSpec.upto mapBackSpec)

/-- 'palimplaw9.MapForms', WHERE WHAT IT READS IS OF BULK AT MOST 1048576: true; the input reads as it did. -/
def mapFormsUptoRow : OpenClaim := { program := "ytlfncfaonnaneaa", sum := "cc39bd12207dd32752eaf2240ec1ac6520893d7a112723ea981184e684f1d58d", func := "palimp/palimplaw9.MapForms", spec := "mapForms", unfollowed := true, recurses := true, apart := false, narrowed := true }
def MapFormsUptoSaid : Prop := mapFormsUptoRow.holds Try.pinned (OpenSpec.upto mapFormsSpec)

/-- 'palimplaw9.MapJoins', WHERE WHAT IT READS IS OF BULK AT MOST 1048576: true; the input reads as it did. -/
def mapJoinsUptoRow : OpenClaim := { program := "ytlfncfaonnaneaa", sum := "cc39bd12207dd32752eaf2240ec1ac6520893d7a112723ea981184e684f1d58d", func := "palimp/palimplaw9.MapJoins", spec := "mapJoins", unfollowed := true, recurses := true, apart := false, narrowed := true }
def MapJoinsUptoSaid : Prop := mapJoinsUptoRow.holds Try.pinned (OpenSpec.upto mapJoinsSpec)

/-- 'palimplaw9.MapBit', WHERE WHAT IT READS IS OF BULK AT MOST 1048576: true; the input reads as it did. -/
def mapBitUptoRow : OpenClaim := { program := "ytlfncfaonnaneaa", sum := "cc39bd12207dd32752eaf2240ec1ac6520893d7a112723ea981184e684f1d58d", func := "palimp/palimplaw9.MapBit", spec := "mapBit", unfollowed := true, recurses := true, apart := false, narrowed := true }
def MapBitUptoSaid : Prop := mapBitUptoRow.holds Try.pinned (OpenSpec.upto mapBitSpec)

end Rows
end Go.Proofs.Ytlfncfaonnaneaa
