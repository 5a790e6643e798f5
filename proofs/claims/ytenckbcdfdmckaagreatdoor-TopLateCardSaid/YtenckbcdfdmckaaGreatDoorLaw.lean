/-
  TopLate, what it says: the law's run by the machine, and what this says of the card.
-/
import Derived.Test.YtenckbcdfdmckaaGreatDoorRun
import Derived.Test.YtenckbcdfdmckaaGreatDoorTie
import Derived.Test.YtenckbcdfdmckaaGreatDoorCards
import Derived.ProofKit
import Derived.OpenShut
import Derived.LaidMore
import Derived.Lay
import Derived.SevenTiedAt
import Derived.Stop.Joined
set_option linter.unusedSimpArgs false
set_option linter.unusedVariables false
namespace Go.Proofs.YtenckbcdfdmckaaGreatDoor
open Go Go.Eng Go.ChangeShapes Go.WideShapes Go.ChangeAt Go.RowKit
set_option maxRecDepth 100000
set_option maxHeartbeats 20000000
theorem ok_law : COk Tryz.prog 5 (fnScal Arms.nil (fun _ => True) rTrue) := Go.Top.law_ok Go.Top.lE3_ok (n := 39) (by kernel_rfl) (by kernel_rfl) Go.Top.run_TopLate
theorem own_law : ownKnob Tryz.prog.godebug = none := by kernel_rfl
theorem laid_out : laidOutB Tryz.prog = true := by kernel_rfl
theorem says_law : SaysTrue Rows.topLateSpec 0 := ⟨rfl, fun H ds h => by
  match ds, h with
  | [], _ => exact ⟨rfl, rfl, rfl⟩⟩
theorem lifted_law (os : Os) (started : os.Started) (H : Type) (enc : TypeId × Value → H) :
    ReturnsInHanded {} Tryz.checked os 5 .any (fun w args => (Rows.topLateSpec.pre enc Tryz.prog Tryz.f5 Rows.topLateRow.domain false w args ∧ laidMetH Tryz.prog Rows.topLateRow.laid w) ∧ sizedMet enc Tryz.prog Tryz.f5 (OpenSpec.ofChange Rows.topLateSpec) false w args)
      (Rows.topLateSpec.post enc Tryz.prog Tryz.f5 false true false false) := by
  refine returnsInHanded_of_change_and (C := Tryz.checked) (X := fun w _ => laidMetH Tryz.prog Rows.topLateRow.laid w) (fun _ _ _ hh h => h.of_heap hh) own_law started (by kernel_rfl) Tryz.func5
    (ChangeSpec.witness_shaped (enc := enc) (C := Tryz.checked) (os := os) (X := fun w _ => laidMetH Tryz.prog Rows.topLateRow.laid w) false (World.laidAll Tryz.prog os Rows.topLateRow.laid) #[] 8 (World.laidAll_os _ _ _)
      (World.shaped_of_ZipB (by kernel_rfl) (by kernel_rfl)) (by kernel_rfl) (by kernel_rfl) (by kernel_rfl)
      (by rw [MakeChecks.laidMetH_plain _ _ _ (by kernel_rfl)]; exact laidMet_laidAll _ (by kernel_rfl) (by kernel_rfl))) ?_
  intro W base args ds gs before hval hW _ _ _ _
  exact law_contract (ts := []) (tb := 4) (A := Arms.nil) (p := fun _ => True) (good := goodAny) ok_law (by rw [Tryz.params5]) (by kernel_rfl) Tryz.underlying4 laid_out (by kernel_rfl) readsA_nil (fun _ _ => trivial) says_law H enc W base args ds gs before hval hW
theorem facts_law : joinedFacts Tryz.pinned.checked.prog 5 Tryz.f5 Rows.topLateSpec Rows.topLateRow = true := by
  unfold joinedFacts
  simp only [Bool.and_eq_true]
  repeat' apply And.intro
  all_goals (as_aux_lemma => kernel_rfl)
theorem over_law : Rows.TopLateSaid :=
  OpenClaim.holds_of_wide 5 Tryz.f5 rfl rfl rfl rfl rfl rfl rfl ⟨rfl, rfl, rfl, rfl, rfl⟩ rfl rfl rfl rfl rfl (by as_aux_lemma => kernel_rfl) Tryz.func5 facts_law
    (of_decide_eq_true (by as_aux_lemma => kernel_rfl)) (by unfold Func.isWrapper; first | (rw [if_pos (by decide +kernel)]; kernel_rfl) | (rw [if_neg (by decide +kernel)]; exact ⟨rfl, rfl⟩))
    (fun os started H enc _ => lifted_law os started H enc)
theorem topLate_holds : Rows.TopLateCardSaid :=
  Claim7.holds_tied_plain_at .later [] [.data, .data, .data, .data, .pinned] true (true, "9354fd64b14d2447aa4224e2c203f55afa3b3881cc7a4293d0513bf78738a19a") false over_law (fun _ h => by cases h) (by as_aux_lemma => kernel_rfl) (fun _ h => by cases h) topLate_row_tie rfl ⟨rfl, rfl⟩ (by as_aux_lemma => kernel_rfl) rfl
    (fun f fn hf hfn => by
      obtain rfl : f = 5 := Option.some.inj ((show Tryz.prog.funcNamed "palimp/palimptop.TopLate" = some 5 by kernel_rfl).symm.trans hf) |>.symm
      obtain rfl : fn = Tryz.f5 := (Option.some.inj (Tryz.func5.symm.trans hfn)).symm
      exact ⟨by kernel_rfl, fun j t ht => by
        rw [Tryz.params5] at ht
        simp at ht⟩)
    (by as_aux_lemma => kernel_rfl)
end Go.Proofs.YtenckbcdfdmckaaGreatDoor
