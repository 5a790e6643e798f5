/-
  TopKeeping, what it says: the law's run by the machine, and what this says of the card.
-/
import Derived.Test.YtenckbcdfdmckaaGreatDoorRun
import Derived.Test.YtenckbcdfdmckaaGreatDoorTie
import Derived.Test.YtenckbcdfdmckaaGreatDoorCards
import Derived.ProofKit
import Derived.OpenShut
import Derived.LaidMore
import Derived.Lay
import Derived.SevenTiedAt
import Derived.Stop.Joined
set_option linter.unusedSimpArgs false
set_option linter.unusedVariables false
namespace Go.Proofs.YtenckbcdfdmckaaGreatDoor
open Go Go.Eng Go.ChangeShapes Go.WideShapes Go.ChangeAt Go.RowKit
set_option maxRecDepth 100000
set_option maxHeartbeats 20000000
theorem ok_law : COk Tryz.prog 6 (fnScal Arms.nil (fun _ => True) rTrue) := Go.Top.law_ok Go.Top.kE3_ok (n := 39) (by kernel_rfl) (by kernel_rfl) Go.Top.run_TopKeeping
theorem own_law : ownKnob Tryz.prog.godebug = none := by kernel_rfl
theorem laid_out : laidOutB Tryz.prog = true := by kernel_rfl
theorem says_law : SaysTrue Rows.topKeepingSpec 0 := ⟨rfl, fun H ds h => by
  match ds, h with
  | [], _ => exact ⟨rfl, rfl, rfl⟩⟩
theorem lifted_law (os : Os) (started : os.Started) (H : Type) (enc : TypeId × Value → H) :
    ReturnsInHanded {} Tryz.checked os 6 .any (fun w args => (Rows.topKeepingSpec.pre enc Tryz.prog Tryz.f6 Rows.topKeepingRow.domain false w args ∧ laidMetH Tryz.prog Rows.topKeepingRow.laid w) ∧ sizedMet enc Tryz.prog Tryz.f6 (OpenSpec.ofChange Rows.topKeepingSpec) false w args)
      (Rows.topKeepingSpec.post enc Tryz.prog Tryz.f6 false true false false) := by
  refine returnsInHanded_of_change_and (C := Tryz.checked) (X := fun w _ => laidMetH Tryz.prog Rows.topKeepingRow.laid w) (fun _ _ _ hh h => h.of_heap hh) own_law started (by kernel_rfl) Tryz.func6
    (ChangeSpec.witness_shaped (enc := enc) (C := Tryz.checked) (os := os) (X := fun w _ => laidMetH Tryz.prog Rows.topKeepingRow.laid w) false (World.laidAll Tryz.prog os Rows.topKeepingRow.laid) #[] 8 (World.laidAll_os _ _ _)
      (World.shaped_of_ZipB (by kernel_rfl) (by kernel_rfl)) (by kernel_rfl) (by kernel_rfl) (by kernel_rfl)
      (by rw [MakeChecks.laidMetH_plain _ _ _ (by kernel_rfl)]; exact laidMet_laidAll _ (by kernel_rfl) (by kernel_rfl))) ?_
  intro W base args ds gs before hval hW _ _ _ _
  exact law_contract (ts := []) (tb := 4) (A := Arms.nil) (p := fun _ => True) (good := goodAny) ok_law (by rw [Tryz.params6]) (by kernel_rfl) Tryz.underlying4 laid_out (by kernel_rfl) readsA_nil (fun _ _ => trivial) says_law H enc W base args ds gs before hval hW
theorem clo_law : Tryz.pinned.checked.prog.closure 6 = [6, 8, 9, 13, 20, 34, 64, 33, 62, 101, 104, 163, 215, 164, 216, 105, 107, 63, 102, 160, 161, 103, 162, 106, 21, 22, 23, 35, 24, 36, 65, 43, 44, 66, 37, 67, 108, 68, 25, 38, 45, 46, 47, 39, 69, 109, 165, 217, 255, 303, 327, 337, 344, 256, 218, 219, 110, 81, 136, 135, 111, 40, 72, 71, 121, 123, 112, 122, 124, 176, 229, 268, 310, 171, 226, 266, 267, 225, 257, 263, 309, 258, 304, 259, 305, 306, 260, 307, 308, 328, 261, 262, 264, 265, 172, 180, 231, 232, 230, 269, 173, 177, 174, 227, 175, 228, 70, 113, 115, 114, 116, 166, 187, 235, 220, 222, 168, 117, 76, 78, 131, 183, 128, 221, 223, 130, 181, 182, 167, 224, 118, 169, 129, 170, 119, 120, 73, 125, 74, 41, 75, 126, 127, 178, 179, 77, 42, 79, 132, 184, 133, 134, 185, 14, 26, 27, 48, 49, 80, 50, 82, 137, 186, 233, 270, 311, 329, 338, 339, 345, 330, 340, 331, 341, 346, 347, 348, 350, 234, 271, 272, 142, 190, 191, 237, 282, 189, 236, 274, 275, 313, 276, 277, 314, 315, 332, 278, 279, 280, 281, 273, 140, 188, 312, 138, 83, 139, 84, 141, 85, 143, 192, 238, 283, 239, 284, 240, 241, 193, 194, 242, 286, 285, 316, 195, 243, 196, 144, 197, 199, 198, 51, 86, 145, 87, 88, 52, 89, 90, 146, 147, 91, 148, 149, 53, 92, 150, 94, 154, 200, 202, 204, 247, 206, 250, 293, 291, 251, 292, 323, 244, 252, 294, 245, 201, 246, 287, 317, 288, 289, 318, 319, 333, 320, 321, 334, 290, 322, 335, 342, 343, 349, 351, 352, 353, 356, 357, 354, 355, 358, 359, 360, 361, 203, 248, 151, 152, 93, 153, 54, 95, 155, 205, 249, 207, 208, 209, 253, 210, 254, 295, 296, 324, 297, 298, 325, 326, 336, 299, 300, 301, 302, 211, 156, 157, 212, 213, 214, 55, 96, 158, 97, 11, 10] := by kernel_rfl
theorem facts_law : joinedFacts Tryz.pinned.checked.prog 6 Tryz.f6 Rows.topKeepingSpec Rows.topKeepingRow = true := by
  unfold joinedFacts
  simp only [Bool.and_eq_true]
  repeat' apply And.intro
  all_goals first
    | (unfold Program.inPlace; rw [clo_law]; as_aux_lemma => kernel_rfl)
    | (unfold Program.recurses Program.unfollowed; rw [clo_law]; as_aux_lemma => kernel_rfl)
    | (unfold Program.unfollowed; rw [clo_law]; as_aux_lemma => kernel_rfl)
    | (unfold Program.varsNamed; rw [clo_law]; as_aux_lemma => kernel_rfl)
    | (as_aux_lemma => kernel_rfl)
theorem over_law : Rows.TopKeepingSaid :=
  OpenClaim.holds_of_wide 6 Tryz.f6 rfl rfl rfl rfl rfl rfl rfl ⟨rfl, rfl, rfl, rfl, rfl⟩ rfl rfl rfl rfl rfl (by as_aux_lemma => kernel_rfl) Tryz.func6 facts_law
    (of_decide_eq_true (by as_aux_lemma => kernel_rfl)) (by unfold Func.isWrapper; first | (rw [if_pos (by decide +kernel)]; kernel_rfl) | (rw [if_neg (by decide +kernel)]; exact ⟨rfl, rfl⟩))
    (fun os started H enc _ => lifted_law os started H enc)
theorem topKeeping_holds : Rows.TopKeepingCardSaid :=
  Claim7.holds_tied_plain_at .later [] [.data, .data, .data, .data, .pinned] true (true, "9354fd64b14d2447aa4224e2c203f55afa3b3881cc7a4293d0513bf78738a19a") false over_law (fun _ h => by cases h) (by as_aux_lemma => kernel_rfl) (fun _ h => by cases h) topKeeping_row_tie rfl ⟨rfl, rfl⟩ (by as_aux_lemma => kernel_rfl) rfl
    (fun f fn hf hfn => by
      obtain rfl : f = 6 := Option.some.inj ((show Tryz.prog.funcNamed "palimp/palimptop.TopKeeping" = some 6 by kernel_rfl).symm.trans hf) |>.symm
      obtain rfl : fn = Tryz.f6 := (Option.some.inj (Tryz.func6.symm.trans hfn)).symm
      exact ⟨by kernel_rfl, fun j t ht => by
        rw [Tryz.params6] at ht
        simp at ht⟩)
    (by as_aux_lemma => kernel_rfl)
end Go.Proofs.YtenckbcdfdmckaaGreatDoor
