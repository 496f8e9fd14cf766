/-
  DERIVED. GIVEN WITH THE SEED: THE CARDS: each row of YtokagbahdkfagaaGreatDoorRows.lean that lists a variable, with what it lists TIED to the program's text (the seventh form; the later family's looks); each row that meets fmt, with fmt's text TOLD by the authors' own Lean function (tested against real Go, not proved from fmt's source: count such statements apart). THE CARD IS WHAT COUNTS. Prove the row's statement (the work); the ties are given (YtokagbahdkfagaaGreatDoorTie.lean); close each card by the builder's one call (the guide's Derived/Test/ToyasCard.lean, 'card_holds'). Laid BY PROGRAM, IN A SANDBOX (cutbox-door.mjs). By AI agents, Wed Nov 11 2026. No macro, syntax, notation, axiom, sorry.
-/
import Derived.Test.YtokagbahdkfagaaGreatDoorRows
import GoSem.ClaimSeven
namespace Go.Proofs.YtokagbahdkfagaaGreatDoor
namespace Rows

/-- THE TIED CARD OF 'dowellaw40.StackupValues'. -/
def stackupValuesCard : Claim7 := { stood := { row := stackupValuesRow, standIns := [], harness := (true, "6a733f3b72bc0ead60adc718e2c07e292c9fe85aeaaa65f790a53a2a32ec8562"), looks := true }, kinds := [], alts := [], laidByText := true, laidKinds := [.data, .data, .data, .data, .sentinel, .sentinel, .pinned], laidTests := true, laidLooks := .later }
def StackupValuesCardSaid : Prop := Claim7.holds Tryz.pinned (.plain (OpenSpec.ofChange stackupValuesSpec)) stackupValuesCard

/-- THE TIED CARD OF 'dowellaw40.StackupExamines'. -/
def stackupExaminesCard : Claim7 := { stood := { row := stackupExaminesRow, standIns := [], harness := (true, "6a733f3b72bc0ead60adc718e2c07e292c9fe85aeaaa65f790a53a2a32ec8562"), looks := true }, kinds := [], alts := [], laidByText := true, laidKinds := [.data, .data, .data, .data, .sentinel, .sentinel, .pinned], laidTests := true, laidLooks := .later }
def StackupExaminesCardSaid : Prop := Claim7.holds Tryz.pinned (.plain (OpenSpec.ofChange stackupExaminesSpec)) stackupExaminesCard

/-- THE TIED CARD OF 'dowellaw40.StackupPermits'. -/
def stackupPermitsCard : Claim7 := { stood := { row := stackupPermitsRow, standIns := [], harness := (true, "6a733f3b72bc0ead60adc718e2c07e292c9fe85aeaaa65f790a53a2a32ec8562"), looks := true }, kinds := [], alts := [], laidByText := true, laidKinds := [.data, .data, .data, .data, .sentinel, .sentinel, .pinned], laidTests := true, laidLooks := .later }
def StackupPermitsCardSaid : Prop := Claim7.holds Tryz.pinned (.plain (OpenSpec.ofChange stackupPermitsSpec)) stackupPermitsCard

/-- THE TIED CARD OF 'dowellaw40.StackupCorners'. -/
def stackupCornersCard : Claim7 := { stood := { row := stackupCornersRow, standIns := [], harness := (true, "6a733f3b72bc0ead60adc718e2c07e292c9fe85aeaaa65f790a53a2a32ec8562"), looks := true }, kinds := [], alts := [], laidByText := true, laidKinds := [.data, .data, .data, .data, .sentinel, .sentinel, .pinned], laidTests := true, laidLooks := .later }
def StackupCornersCardSaid : Prop := Claim7.holds Tryz.pinned (.plain (OpenSpec.ofChange stackupCornersSpec)) stackupCornersCard

/-- THE TIED CARD OF 'dowellaw40.StackupBounds'. -/
def stackupBoundsCard : Claim7 := { stood := { row := stackupBoundsRow, standIns := [], harness := (true, "6a733f3b72bc0ead60adc718e2c07e292c9fe85aeaaa65f790a53a2a32ec8562"), looks := true }, kinds := [], alts := [], laidByText := true, laidKinds := [.data, .data, .data, .data, .sentinel, .sentinel, .pinned], laidTests := true, laidLooks := .later }
def StackupBoundsCardSaid : Prop := Claim7.holds Tryz.pinned (.plain (OpenSpec.ofChange stackupBoundsSpec)) stackupBoundsCard

/-- THE TIED CARD OF 'dowellaw40.StackupMeets'. -/
def stackupMeetsCard : Claim7 := { stood := { row := stackupMeetsRow, standIns := [], harness := (true, "6a733f3b72bc0ead60adc718e2c07e292c9fe85aeaaa65f790a53a2a32ec8562"), looks := true }, kinds := [], alts := [], laidByText := true, laidKinds := [.data, .data, .data, .data, .sentinel, .sentinel, .pinned], laidTests := true, laidLooks := .later }
def StackupMeetsCardSaid : Prop := Claim7.holds Tryz.pinned (.plain (OpenSpec.ofChange stackupMeetsSpec)) stackupMeetsCard

/-- THE TIED CARD OF 'dowellaw40.StackupForms'. -/
def stackupFormsCard : Claim7 := { stood := { row := stackupFormsRow, standIns := [], harness := (true, "6a733f3b72bc0ead60adc718e2c07e292c9fe85aeaaa65f790a53a2a32ec8562"), looks := true }, kinds := [], alts := [], laidByText := true, laidKinds := [.data, .data, .data, .data, .sentinel, .sentinel, .pinned], laidTests := true, laidLooks := .later }
def StackupFormsCardSaid : Prop := Claim7.holds Tryz.pinned (.plain (OpenSpec.ofChange stackupFormsSpec)) stackupFormsCard

/-- THE TIED CARD OF 'dowellaw40.StackupNarrows'. -/
def stackupNarrowsCard : Claim7 := { stood := { row := stackupNarrowsRow, standIns := [], harness := (true, "6a733f3b72bc0ead60adc718e2c07e292c9fe85aeaaa65f790a53a2a32ec8562"), looks := true }, kinds := [], alts := [], laidByText := true, laidKinds := [.data, .data, .data, .data, .sentinel, .sentinel, .pinned], laidTests := true, laidLooks := .later }
def StackupNarrowsCardSaid : Prop := Claim7.holds Tryz.pinned (.plain (OpenSpec.ofChange stackupNarrowsSpec)) stackupNarrowsCard

/-- THE TIED CARD OF 'dowellaw40.StackupVerifies'. -/
def stackupVerifiesCard : Claim7 := { stood := { row := stackupVerifiesRow, standIns := [], harness := (true, "6a733f3b72bc0ead60adc718e2c07e292c9fe85aeaaa65f790a53a2a32ec8562"), looks := true }, kinds := [], alts := [], laidByText := true, laidKinds := [.data, .data, .data, .data, .sentinel, .sentinel, .pinned], laidTests := true, laidLooks := .later }
def StackupVerifiesCardSaid : Prop := Claim7.holds Tryz.pinned (.plain (OpenSpec.ofChange stackupVerifiesSpec)) stackupVerifiesCard

/-- THE TIED CARD OF 'dowellaw40.StackupWorst'. -/
def stackupWorstCard : Claim7 := { stood := { row := stackupWorstRow, standIns := [], harness := (true, "6a733f3b72bc0ead60adc718e2c07e292c9fe85aeaaa65f790a53a2a32ec8562"), looks := true }, kinds := [], alts := [], laidByText := true, laidKinds := [.data, .data, .data, .data, .sentinel, .sentinel, .pinned], laidTests := true, laidLooks := .later }
def StackupWorstCardSaid : Prop := Claim7.holds Tryz.pinned (.plain (OpenSpec.ofChange stackupWorstSpec)) stackupWorstCard

/-- THE TIED CARD OF 'dowellaw40.StackupChecks'. -/
def stackupChecksCard : Claim7 := { stood := { row := stackupChecksRow, standIns := [], harness := (true, "6a733f3b72bc0ead60adc718e2c07e292c9fe85aeaaa65f790a53a2a32ec8562"), looks := true }, kinds := [], alts := [], laidByText := true, laidKinds := [.data, .data, .data, .data, .sentinel, .sentinel, .pinned], laidTests := true, laidLooks := .later }
def StackupChecksCardSaid : Prop := Claim7.holds Tryz.pinned (.plain (OpenSpec.ofChange stackupChecksSpec)) stackupChecksCard

/-- THE SECOND FORM's CARD OF 'dowellaw40.StackupValues'. -/
def stackupValuesUptoCard : Claim7 := { stood := { row := stackupValuesUptoRow, standIns := [], harness := (true, "6a733f3b72bc0ead60adc718e2c07e292c9fe85aeaaa65f790a53a2a32ec8562"), looks := true }, kinds := [], alts := [], laidByText := true, laidKinds := [.data, .data, .data, .data, .sentinel, .sentinel, .pinned], laidTests := true, laidLooks := .later }
def StackupValuesUptoCardSaid : Prop := Claim7.holds Tryz.pinned (.plain (OpenSpec.upto stackupValuesSpec)) stackupValuesUptoCard

/-- THE SECOND FORM's CARD OF 'dowellaw40.StackupExamines'. -/
def stackupExaminesUptoCard : Claim7 := { stood := { row := stackupExaminesUptoRow, standIns := [], harness := (true, "6a733f3b72bc0ead60adc718e2c07e292c9fe85aeaaa65f790a53a2a32ec8562"), looks := true }, kinds := [], alts := [], laidByText := true, laidKinds := [.data, .data, .data, .data, .sentinel, .sentinel, .pinned], laidTests := true, laidLooks := .later }
def StackupExaminesUptoCardSaid : Prop := Claim7.holds Tryz.pinned (.plain (OpenSpec.upto stackupExaminesSpec)) stackupExaminesUptoCard

/-- THE SECOND FORM's CARD OF 'dowellaw40.StackupPermits'. -/
def stackupPermitsUptoCard : Claim7 := { stood := { row := stackupPermitsUptoRow, standIns := [], harness := (true, "6a733f3b72bc0ead60adc718e2c07e292c9fe85aeaaa65f790a53a2a32ec8562"), looks := true }, kinds := [], alts := [], laidByText := true, laidKinds := [.data, .data, .data, .data, .sentinel, .sentinel, .pinned], laidTests := true, laidLooks := .later }
def StackupPermitsUptoCardSaid : Prop := Claim7.holds Tryz.pinned (.plain (OpenSpec.upto stackupPermitsSpec)) stackupPermitsUptoCard

/-- THE SECOND FORM's CARD OF 'dowellaw40.StackupCorners'. -/
def stackupCornersUptoCard : Claim7 := { stood := { row := stackupCornersUptoRow, standIns := [], harness := (true, "6a733f3b72bc0ead60adc718e2c07e292c9fe85aeaaa65f790a53a2a32ec8562"), looks := true }, kinds := [], alts := [], laidByText := true, laidKinds := [.data, .data, .data, .data, .sentinel, .sentinel, .pinned], laidTests := true, laidLooks := .later }
def StackupCornersUptoCardSaid : Prop := Claim7.holds Tryz.pinned (.plain (OpenSpec.upto stackupCornersSpec)) stackupCornersUptoCard

/-- THE SECOND FORM's CARD OF 'dowellaw40.StackupBounds'. -/
def stackupBoundsUptoCard : Claim7 := { stood := { row := stackupBoundsUptoRow, standIns := [], harness := (true, "6a733f3b72bc0ead60adc718e2c07e292c9fe85aeaaa65f790a53a2a32ec8562"), looks := true }, kinds := [], alts := [], laidByText := true, laidKinds := [.data, .data, .data, .data, .sentinel, .sentinel, .pinned], laidTests := true, laidLooks := .later }
def StackupBoundsUptoCardSaid : Prop := Claim7.holds Tryz.pinned (.plain (OpenSpec.upto stackupBoundsSpec)) stackupBoundsUptoCard

/-- THE SECOND FORM's CARD OF 'dowellaw40.StackupMeets'. -/
def stackupMeetsUptoCard : Claim7 := { stood := { row := stackupMeetsUptoRow, standIns := [], harness := (true, "6a733f3b72bc0ead60adc718e2c07e292c9fe85aeaaa65f790a53a2a32ec8562"), looks := true }, kinds := [], alts := [], laidByText := true, laidKinds := [.data, .data, .data, .data, .sentinel, .sentinel, .pinned], laidTests := true, laidLooks := .later }
def StackupMeetsUptoCardSaid : Prop := Claim7.holds Tryz.pinned (.plain (OpenSpec.upto stackupMeetsSpec)) stackupMeetsUptoCard

/-- THE SECOND FORM's CARD OF 'dowellaw40.StackupForms'. -/
def stackupFormsUptoCard : Claim7 := { stood := { row := stackupFormsUptoRow, standIns := [], harness := (true, "6a733f3b72bc0ead60adc718e2c07e292c9fe85aeaaa65f790a53a2a32ec8562"), looks := true }, kinds := [], alts := [], laidByText := true, laidKinds := [.data, .data, .data, .data, .sentinel, .sentinel, .pinned], laidTests := true, laidLooks := .later }
def StackupFormsUptoCardSaid : Prop := Claim7.holds Tryz.pinned (.plain (OpenSpec.upto stackupFormsSpec)) stackupFormsUptoCard

/-- THE SECOND FORM's CARD OF 'dowellaw40.StackupNarrows'. -/
def stackupNarrowsUptoCard : Claim7 := { stood := { row := stackupNarrowsUptoRow, standIns := [], harness := (true, "6a733f3b72bc0ead60adc718e2c07e292c9fe85aeaaa65f790a53a2a32ec8562"), looks := true }, kinds := [], alts := [], laidByText := true, laidKinds := [.data, .data, .data, .data, .sentinel, .sentinel, .pinned], laidTests := true, laidLooks := .later }
def StackupNarrowsUptoCardSaid : Prop := Claim7.holds Tryz.pinned (.plain (OpenSpec.upto stackupNarrowsSpec)) stackupNarrowsUptoCard

/-- THE SECOND FORM's CARD OF 'dowellaw40.StackupVerifies'. -/
def stackupVerifiesUptoCard : Claim7 := { stood := { row := stackupVerifiesUptoRow, standIns := [], harness := (true, "6a733f3b72bc0ead60adc718e2c07e292c9fe85aeaaa65f790a53a2a32ec8562"), looks := true }, kinds := [], alts := [], laidByText := true, laidKinds := [.data, .data, .data, .data, .sentinel, .sentinel, .pinned], laidTests := true, laidLooks := .later }
def StackupVerifiesUptoCardSaid : Prop := Claim7.holds Tryz.pinned (.plain (OpenSpec.upto stackupVerifiesSpec)) stackupVerifiesUptoCard

/-- THE SECOND FORM's CARD OF 'dowellaw40.StackupWorst'. -/
def stackupWorstUptoCard : Claim7 := { stood := { row := stackupWorstUptoRow, standIns := [], harness := (true, "6a733f3b72bc0ead60adc718e2c07e292c9fe85aeaaa65f790a53a2a32ec8562"), looks := true }, kinds := [], alts := [], laidByText := true, laidKinds := [.data, .data, .data, .data, .sentinel, .sentinel, .pinned], laidTests := true, laidLooks := .later }
def StackupWorstUptoCardSaid : Prop := Claim7.holds Tryz.pinned (.plain (OpenSpec.upto stackupWorstSpec)) stackupWorstUptoCard

/-- THE SECOND FORM's CARD OF 'dowellaw40.StackupChecks'. -/
def stackupChecksUptoCard : Claim7 := { stood := { row := stackupChecksUptoRow, standIns := [], harness := (true, "6a733f3b72bc0ead60adc718e2c07e292c9fe85aeaaa65f790a53a2a32ec8562"), looks := true }, kinds := [], alts := [], laidByText := true, laidKinds := [.data, .data, .data, .data, .sentinel, .sentinel, .pinned], laidTests := true, laidLooks := .later }
def StackupChecksUptoCardSaid : Prop := Claim7.holds Tryz.pinned (.plain (OpenSpec.upto stackupChecksSpec)) stackupChecksUptoCard
end Rows
end Go.Proofs.YtokagbahdkfagaaGreatDoor
