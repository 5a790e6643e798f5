/-
  DERIVED. GIVEN WITH THE SEED: THE CARDS: each row of YtenckbcdfdmckaaGreatDoorRows.lean that lists a variable, with what it lists TIED to the program's text (the seventh form; the later family's looks); each row that meets fmt, with fmt's text TOLD by the authors' own Lean function (tested against real Go, not proved from fmt's source: count such statements apart). THE CARD IS WHAT COUNTS. Prove the row's statement (the work); the ties are given (YtenckbcdfdmckaaGreatDoorTie.lean); close each card by the builder's one call (the guide's Derived/Test/ToyasCard.lean, 'card_holds'). Laid BY PROGRAM, IN A SANDBOX (cutbox-door.mjs). By AI agents, Wed Nov 11 2026. No macro, syntax, notation, axiom, sorry.
-/
import Derived.Test.YtenckbcdfdmckaaGreatDoorRows
import GoSem.ClaimSeven
namespace Go.Proofs.YtenckbcdfdmckaaGreatDoor
namespace Rows

/-- THE TIED CARD OF 'palimptop.TopErrors'. -/
def topErrorsCard : Claim7 := { stood := { row := topErrorsRow, standIns := [], harness := (true, "9354fd64b14d2447aa4224e2c203f55afa3b3881cc7a4293d0513bf78738a19a"), looks := false }, kinds := [], alts := [], laidByText := true, laidKinds := [.data, .data, .data, .data, .pinned], laidTests := true, laidLooks := .later }
def TopErrorsCardSaid : Prop := Claim7.holds Tryz.pinned (.plain (OpenSpec.ofChange topErrorsSpec)) topErrorsCard

/-- THE TIED CARD OF 'palimptop.TopStory'. -/
def topStoryCard : Claim7 := { stood := { row := topStoryRow, standIns := [], harness := (true, "9354fd64b14d2447aa4224e2c203f55afa3b3881cc7a4293d0513bf78738a19a"), looks := false }, kinds := [], alts := [], laidByText := true, laidKinds := [.data, .data, .data, .data, .pinned], laidTests := true, laidLooks := .later }
def TopStoryCardSaid : Prop := Claim7.holds Tryz.pinned (.plain (OpenSpec.ofChange topStorySpec)) topStoryCard

/-- THE TIED CARD OF 'palimptop.TopLate'. -/
def topLateCard : Claim7 := { stood := { row := topLateRow, standIns := [], harness := (true, "9354fd64b14d2447aa4224e2c203f55afa3b3881cc7a4293d0513bf78738a19a"), looks := false }, kinds := [], alts := [], laidByText := true, laidKinds := [.data, .data, .data, .data, .pinned], laidTests := true, laidLooks := .later }
def TopLateCardSaid : Prop := Claim7.holds Tryz.pinned (.plain (OpenSpec.ofChange topLateSpec)) topLateCard

/-- THE TIED CARD OF 'palimptop.TopKeeping'. -/
def topKeepingCard : Claim7 := { stood := { row := topKeepingRow, standIns := [], harness := (true, "9354fd64b14d2447aa4224e2c203f55afa3b3881cc7a4293d0513bf78738a19a"), looks := false }, kinds := [], alts := [], laidByText := true, laidKinds := [.data, .data, .data, .data, .pinned], laidTests := true, laidLooks := .later }
def TopKeepingCardSaid : Prop := Claim7.holds Tryz.pinned (.plain (OpenSpec.ofChange topKeepingSpec)) topKeepingCard

/-- THE TIED CARD OF 'palimptop.TopLying'. -/
def topLyingCard : Claim7 := { stood := { row := topLyingRow, standIns := [], harness := (true, "9354fd64b14d2447aa4224e2c203f55afa3b3881cc7a4293d0513bf78738a19a"), looks := false }, kinds := [], alts := [], laidByText := true, laidKinds := [.data, .data, .data, .data, .pinned], laidTests := true, laidLooks := .later }
def TopLyingCardSaid : Prop := Claim7.holds Tryz.pinned (.plain (OpenSpec.ofChange topLyingSpec)) topLyingCard

/-- THE SECOND FORM's CARD OF 'palimptop.TopErrors'. -/
def topErrorsUptoCard : Claim7 := { stood := { row := topErrorsUptoRow, standIns := [], harness := (true, "9354fd64b14d2447aa4224e2c203f55afa3b3881cc7a4293d0513bf78738a19a"), looks := false }, kinds := [], alts := [], laidByText := true, laidKinds := [.data, .data, .data, .data, .pinned], laidTests := true, laidLooks := .later }
def TopErrorsUptoCardSaid : Prop := Claim7.holds Tryz.pinned (.plain (OpenSpec.upto topErrorsSpec)) topErrorsUptoCard

/-- THE SECOND FORM's CARD OF 'palimptop.TopStory'. -/
def topStoryUptoCard : Claim7 := { stood := { row := topStoryUptoRow, standIns := [], harness := (true, "9354fd64b14d2447aa4224e2c203f55afa3b3881cc7a4293d0513bf78738a19a"), looks := false }, kinds := [], alts := [], laidByText := true, laidKinds := [.data, .data, .data, .data, .pinned], laidTests := true, laidLooks := .later }
def TopStoryUptoCardSaid : Prop := Claim7.holds Tryz.pinned (.plain (OpenSpec.upto topStorySpec)) topStoryUptoCard

/-- THE SECOND FORM's CARD OF 'palimptop.TopLate'. -/
def topLateUptoCard : Claim7 := { stood := { row := topLateUptoRow, standIns := [], harness := (true, "9354fd64b14d2447aa4224e2c203f55afa3b3881cc7a4293d0513bf78738a19a"), looks := false }, kinds := [], alts := [], laidByText := true, laidKinds := [.data, .data, .data, .data, .pinned], laidTests := true, laidLooks := .later }
def TopLateUptoCardSaid : Prop := Claim7.holds Tryz.pinned (.plain (OpenSpec.upto topLateSpec)) topLateUptoCard

/-- THE SECOND FORM's CARD OF 'palimptop.TopKeeping'. -/
def topKeepingUptoCard : Claim7 := { stood := { row := topKeepingUptoRow, standIns := [], harness := (true, "9354fd64b14d2447aa4224e2c203f55afa3b3881cc7a4293d0513bf78738a19a"), looks := false }, kinds := [], alts := [], laidByText := true, laidKinds := [.data, .data, .data, .data, .pinned], laidTests := true, laidLooks := .later }
def TopKeepingUptoCardSaid : Prop := Claim7.holds Tryz.pinned (.plain (OpenSpec.upto topKeepingSpec)) topKeepingUptoCard

/-- THE SECOND FORM's CARD OF 'palimptop.TopLying'. -/
def topLyingUptoCard : Claim7 := { stood := { row := topLyingUptoRow, standIns := [], harness := (true, "9354fd64b14d2447aa4224e2c203f55afa3b3881cc7a4293d0513bf78738a19a"), looks := false }, kinds := [], alts := [], laidByText := true, laidKinds := [.data, .data, .data, .data, .pinned], laidTests := true, laidLooks := .later }
def TopLyingUptoCardSaid : Prop := Claim7.holds Tryz.pinned (.plain (OpenSpec.upto topLyingSpec)) topLyingUptoCard
end Rows
end Go.Proofs.YtenckbcdfdmckaaGreatDoor
