/-
  DERIVED. GIVEN WITH THE SEED: THE CARDS: each row of YtdefghfjhgmpfaaGreatDoorRows.lean that lists a variable, with what it lists TIED to the program's text (the seventh form; the later family's looks); each row that meets fmt, with fmt's text TOLD by the authors' own Lean function (tested against real Go, not proved from fmt's source: count such statements apart). THE CARD IS WHAT COUNTS. Prove the row's statement (the work); the ties are given (YtdefghfjhgmpfaaGreatDoorTie.lean); close each card by the builder's one call (the guide's Derived/Test/ToyasCard.lean, 'card_holds'). Laid BY PROGRAM, IN A SANDBOX (cutbox-door.mjs). By AI agents, Wed Nov 11 2026. No macro, syntax, notation, axiom, sorry.
-/
import Derived.Test.YtdefghfjhgmpfaaGreatDoorRows
import GoSem.ClaimSeven
namespace Go.Proofs.YtdefghfjhgmpfaaGreatDoor
namespace Rows

/-- THE TIED CARD OF 'dowellaw06.LinearDuals'. -/
def linearDualsCard : Claim7 := { stood := { row := linearDualsRow, standIns := [], harness := (true, "d5ee74671f814f39e46abb7a5b207ebc6ab7512bb0bcac41082d168d5d0fff02"), looks := true }, kinds := [], alts := [], laidByText := true, laidKinds := [.data, .data, .data, .data, .sentinel, .sentinel, .pinned], laidTests := true, laidLooks := .later }
def LinearDualsCardSaid : Prop := Claim7.holds Tryz.pinned (.plain (OpenSpec.ofChange linearDualsSpec)) linearDualsCard

/-- THE TIED CARD OF 'dowellaw06.LinearFeasible'. -/
def linearFeasibleCard : Claim7 := { stood := { row := linearFeasibleRow, standIns := [], harness := (true, "d5ee74671f814f39e46abb7a5b207ebc6ab7512bb0bcac41082d168d5d0fff02"), looks := true }, kinds := [], alts := [], laidByText := true, laidKinds := [.data, .data, .data, .data, .sentinel, .sentinel, .pinned], laidTests := true, laidLooks := .later }
def LinearFeasibleCardSaid : Prop := Claim7.holds Tryz.pinned (.plain (OpenSpec.ofChange linearFeasibleSpec)) linearFeasibleCard

/-- THE TIED CARD OF 'dowellaw06.LinearExtents'. -/
def linearExtentsCard : Claim7 := { stood := { row := linearExtentsRow, standIns := [], harness := (true, "d5ee74671f814f39e46abb7a5b207ebc6ab7512bb0bcac41082d168d5d0fff02"), looks := true }, kinds := [], alts := [], laidByText := true, laidKinds := [.data, .data, .data, .data, .sentinel, .sentinel, .pinned], laidTests := true, laidLooks := .later }
def LinearExtentsCardSaid : Prop := Claim7.holds Tryz.pinned (.plain (OpenSpec.ofChange linearExtentsSpec)) linearExtentsCard

/-- THE TIED CARD OF 'dowellaw06.LinearMoves'. -/
def linearMovesCard : Claim7 := { stood := { row := linearMovesRow, standIns := [], harness := (true, "d5ee74671f814f39e46abb7a5b207ebc6ab7512bb0bcac41082d168d5d0fff02"), looks := true }, kinds := [], alts := [], laidByText := true, laidKinds := [.data, .data, .data, .data, .sentinel, .sentinel, .pinned], laidTests := true, laidLooks := .later }
def LinearMovesCardSaid : Prop := Claim7.holds Tryz.pinned (.plain (OpenSpec.ofChange linearMovesSpec)) linearMovesCard

/-- THE TIED CARD OF 'dowellaw06.LinearInner'. -/
def linearInnerCard : Claim7 := { stood := { row := linearInnerRow, standIns := [], harness := (true, "d5ee74671f814f39e46abb7a5b207ebc6ab7512bb0bcac41082d168d5d0fff02"), looks := true }, kinds := [], alts := [], laidByText := true, laidKinds := [.data, .data, .data, .data, .sentinel, .sentinel, .pinned], laidTests := true, laidLooks := .later }
def LinearInnerCardSaid : Prop := Claim7.holds Tryz.pinned (.plain (OpenSpec.ofChange linearInnerSpec)) linearInnerCard

/-- THE TIED CARD OF 'dowellaw06.LinearHolds'. -/
def linearHoldsCard : Claim7 := { stood := { row := linearHoldsRow, standIns := [], harness := (true, "d5ee74671f814f39e46abb7a5b207ebc6ab7512bb0bcac41082d168d5d0fff02"), looks := true }, kinds := [], alts := [], laidByText := true, laidKinds := [.data, .data, .data, .data, .sentinel, .sentinel, .pinned], laidTests := true, laidLooks := .later }
def LinearHoldsCardSaid : Prop := Claim7.holds Tryz.pinned (.plain (OpenSpec.ofChange linearHoldsSpec)) linearHoldsCard

/-- THE TIED CARD OF 'dowellaw06.LinearEquations'. -/
def linearEquationsCard : Claim7 := { stood := { row := linearEquationsRow, standIns := [], harness := (true, "d5ee74671f814f39e46abb7a5b207ebc6ab7512bb0bcac41082d168d5d0fff02"), looks := true }, kinds := [], alts := [], laidByText := true, laidKinds := [.data, .data, .data, .data, .sentinel, .sentinel, .pinned], laidTests := true, laidLooks := .later }
def LinearEquationsCardSaid : Prop := Claim7.holds Tryz.pinned (.plain (OpenSpec.ofChange linearEquationsSpec)) linearEquationsCard

/-- THE TIED CARD OF 'dowellaw06.LinearRedundant'. -/
def linearRedundantCard : Claim7 := { stood := { row := linearRedundantRow, standIns := [], harness := (true, "d5ee74671f814f39e46abb7a5b207ebc6ab7512bb0bcac41082d168d5d0fff02"), looks := true }, kinds := [], alts := [], laidByText := true, laidKinds := [.data, .data, .data, .data, .sentinel, .sentinel, .pinned], laidTests := true, laidLooks := .later }
def LinearRedundantCardSaid : Prop := Claim7.holds Tryz.pinned (.plain (OpenSpec.ofChange linearRedundantSpec)) linearRedundantCard

/-- THE TIED CARD OF 'dowellaw06.LinearReduces'. -/
def linearReducesCard : Claim7 := { stood := { row := linearReducesRow, standIns := [], harness := (true, "d5ee74671f814f39e46abb7a5b207ebc6ab7512bb0bcac41082d168d5d0fff02"), looks := true }, kinds := [], alts := [], laidByText := true, laidKinds := [.data, .data, .data, .data, .sentinel, .sentinel, .pinned], laidTests := true, laidLooks := .later }
def LinearReducesCardSaid : Prop := Claim7.holds Tryz.pinned (.plain (OpenSpec.ofChange linearReducesSpec)) linearReducesCard

/-- THE TIED CARD OF 'dowellaw06.LinearVerifies'. -/
def linearVerifiesCard : Claim7 := { stood := { row := linearVerifiesRow, standIns := [], harness := (true, "d5ee74671f814f39e46abb7a5b207ebc6ab7512bb0bcac41082d168d5d0fff02"), looks := true }, kinds := [], alts := [], laidByText := true, laidKinds := [.data, .data, .data, .data, .sentinel, .sentinel, .pinned], laidTests := true, laidLooks := .later }
def LinearVerifiesCardSaid : Prop := Claim7.holds Tryz.pinned (.plain (OpenSpec.ofChange linearVerifiesSpec)) linearVerifiesCard

/-- THE TIED CARD OF 'dowellaw06.LinearSpoiled'. -/
def linearSpoiledCard : Claim7 := { stood := { row := linearSpoiledRow, standIns := [], harness := (true, "d5ee74671f814f39e46abb7a5b207ebc6ab7512bb0bcac41082d168d5d0fff02"), looks := true }, kinds := [], alts := [], laidByText := true, laidKinds := [.data, .data, .data, .data, .sentinel, .sentinel, .pinned], laidTests := true, laidLooks := .later }
def LinearSpoiledCardSaid : Prop := Claim7.holds Tryz.pinned (.plain (OpenSpec.ofChange linearSpoiledSpec)) linearSpoiledCard

/-- THE TIED CARD OF 'dowellaw06.LinearLimits'. -/
def linearLimitsCard : Claim7 := { stood := { row := linearLimitsRow, standIns := [], harness := (true, "d5ee74671f814f39e46abb7a5b207ebc6ab7512bb0bcac41082d168d5d0fff02"), looks := true }, kinds := [], alts := [], laidByText := true, laidKinds := [.data, .data, .data, .data, .sentinel, .sentinel, .pinned], laidTests := true, laidLooks := .later }
def LinearLimitsCardSaid : Prop := Claim7.holds Tryz.pinned (.plain (OpenSpec.ofChange linearLimitsSpec)) linearLimitsCard

/-- THE TIED CARD OF 'dowellaw06.LinearSolves'. -/
def linearSolvesCard : Claim7 := { stood := { row := linearSolvesRow, standIns := [], harness := (true, "d5ee74671f814f39e46abb7a5b207ebc6ab7512bb0bcac41082d168d5d0fff02"), looks := true }, kinds := [], alts := [], laidByText := true, laidKinds := [.data, .data, .data, .data, .sentinel, .sentinel, .pinned], laidTests := true, laidLooks := .later }
def LinearSolvesCardSaid : Prop := Claim7.holds Tryz.pinned (.plain (OpenSpec.ofChange linearSolvesSpec)) linearSolvesCard

/-- THE SECOND FORM's CARD OF 'dowellaw06.LinearDuals'. -/
def linearDualsUptoCard : Claim7 := { stood := { row := linearDualsUptoRow, standIns := [], harness := (true, "d5ee74671f814f39e46abb7a5b207ebc6ab7512bb0bcac41082d168d5d0fff02"), looks := true }, kinds := [], alts := [], laidByText := true, laidKinds := [.data, .data, .data, .data, .sentinel, .sentinel, .pinned], laidTests := true, laidLooks := .later }
def LinearDualsUptoCardSaid : Prop := Claim7.holds Tryz.pinned (.plain (OpenSpec.upto linearDualsSpec)) linearDualsUptoCard

/-- THE SECOND FORM's CARD OF 'dowellaw06.LinearFeasible'. -/
def linearFeasibleUptoCard : Claim7 := { stood := { row := linearFeasibleUptoRow, standIns := [], harness := (true, "d5ee74671f814f39e46abb7a5b207ebc6ab7512bb0bcac41082d168d5d0fff02"), looks := true }, kinds := [], alts := [], laidByText := true, laidKinds := [.data, .data, .data, .data, .sentinel, .sentinel, .pinned], laidTests := true, laidLooks := .later }
def LinearFeasibleUptoCardSaid : Prop := Claim7.holds Tryz.pinned (.plain (OpenSpec.upto linearFeasibleSpec)) linearFeasibleUptoCard

/-- THE SECOND FORM's CARD OF 'dowellaw06.LinearExtents'. -/
def linearExtentsUptoCard : Claim7 := { stood := { row := linearExtentsUptoRow, standIns := [], harness := (true, "d5ee74671f814f39e46abb7a5b207ebc6ab7512bb0bcac41082d168d5d0fff02"), looks := true }, kinds := [], alts := [], laidByText := true, laidKinds := [.data, .data, .data, .data, .sentinel, .sentinel, .pinned], laidTests := true, laidLooks := .later }
def LinearExtentsUptoCardSaid : Prop := Claim7.holds Tryz.pinned (.plain (OpenSpec.upto linearExtentsSpec)) linearExtentsUptoCard

/-- THE SECOND FORM's CARD OF 'dowellaw06.LinearMoves'. -/
def linearMovesUptoCard : Claim7 := { stood := { row := linearMovesUptoRow, standIns := [], harness := (true, "d5ee74671f814f39e46abb7a5b207ebc6ab7512bb0bcac41082d168d5d0fff02"), looks := true }, kinds := [], alts := [], laidByText := true, laidKinds := [.data, .data, .data, .data, .sentinel, .sentinel, .pinned], laidTests := true, laidLooks := .later }
def LinearMovesUptoCardSaid : Prop := Claim7.holds Tryz.pinned (.plain (OpenSpec.upto linearMovesSpec)) linearMovesUptoCard

/-- THE SECOND FORM's CARD OF 'dowellaw06.LinearInner'. -/
def linearInnerUptoCard : Claim7 := { stood := { row := linearInnerUptoRow, standIns := [], harness := (true, "d5ee74671f814f39e46abb7a5b207ebc6ab7512bb0bcac41082d168d5d0fff02"), looks := true }, kinds := [], alts := [], laidByText := true, laidKinds := [.data, .data, .data, .data, .sentinel, .sentinel, .pinned], laidTests := true, laidLooks := .later }
def LinearInnerUptoCardSaid : Prop := Claim7.holds Tryz.pinned (.plain (OpenSpec.upto linearInnerSpec)) linearInnerUptoCard

/-- THE SECOND FORM's CARD OF 'dowellaw06.LinearHolds'. -/
def linearHoldsUptoCard : Claim7 := { stood := { row := linearHoldsUptoRow, standIns := [], harness := (true, "d5ee74671f814f39e46abb7a5b207ebc6ab7512bb0bcac41082d168d5d0fff02"), looks := true }, kinds := [], alts := [], laidByText := true, laidKinds := [.data, .data, .data, .data, .sentinel, .sentinel, .pinned], laidTests := true, laidLooks := .later }
def LinearHoldsUptoCardSaid : Prop := Claim7.holds Tryz.pinned (.plain (OpenSpec.upto linearHoldsSpec)) linearHoldsUptoCard

/-- THE SECOND FORM's CARD OF 'dowellaw06.LinearEquations'. -/
def linearEquationsUptoCard : Claim7 := { stood := { row := linearEquationsUptoRow, standIns := [], harness := (true, "d5ee74671f814f39e46abb7a5b207ebc6ab7512bb0bcac41082d168d5d0fff02"), looks := true }, kinds := [], alts := [], laidByText := true, laidKinds := [.data, .data, .data, .data, .sentinel, .sentinel, .pinned], laidTests := true, laidLooks := .later }
def LinearEquationsUptoCardSaid : Prop := Claim7.holds Tryz.pinned (.plain (OpenSpec.upto linearEquationsSpec)) linearEquationsUptoCard

/-- THE SECOND FORM's CARD OF 'dowellaw06.LinearRedundant'. -/
def linearRedundantUptoCard : Claim7 := { stood := { row := linearRedundantUptoRow, standIns := [], harness := (true, "d5ee74671f814f39e46abb7a5b207ebc6ab7512bb0bcac41082d168d5d0fff02"), looks := true }, kinds := [], alts := [], laidByText := true, laidKinds := [.data, .data, .data, .data, .sentinel, .sentinel, .pinned], laidTests := true, laidLooks := .later }
def LinearRedundantUptoCardSaid : Prop := Claim7.holds Tryz.pinned (.plain (OpenSpec.upto linearRedundantSpec)) linearRedundantUptoCard

/-- THE SECOND FORM's CARD OF 'dowellaw06.LinearReduces'. -/
def linearReducesUptoCard : Claim7 := { stood := { row := linearReducesUptoRow, standIns := [], harness := (true, "d5ee74671f814f39e46abb7a5b207ebc6ab7512bb0bcac41082d168d5d0fff02"), looks := true }, kinds := [], alts := [], laidByText := true, laidKinds := [.data, .data, .data, .data, .sentinel, .sentinel, .pinned], laidTests := true, laidLooks := .later }
def LinearReducesUptoCardSaid : Prop := Claim7.holds Tryz.pinned (.plain (OpenSpec.upto linearReducesSpec)) linearReducesUptoCard

/-- THE SECOND FORM's CARD OF 'dowellaw06.LinearVerifies'. -/
def linearVerifiesUptoCard : Claim7 := { stood := { row := linearVerifiesUptoRow, standIns := [], harness := (true, "d5ee74671f814f39e46abb7a5b207ebc6ab7512bb0bcac41082d168d5d0fff02"), looks := true }, kinds := [], alts := [], laidByText := true, laidKinds := [.data, .data, .data, .data, .sentinel, .sentinel, .pinned], laidTests := true, laidLooks := .later }
def LinearVerifiesUptoCardSaid : Prop := Claim7.holds Tryz.pinned (.plain (OpenSpec.upto linearVerifiesSpec)) linearVerifiesUptoCard

/-- THE SECOND FORM's CARD OF 'dowellaw06.LinearSpoiled'. -/
def linearSpoiledUptoCard : Claim7 := { stood := { row := linearSpoiledUptoRow, standIns := [], harness := (true, "d5ee74671f814f39e46abb7a5b207ebc6ab7512bb0bcac41082d168d5d0fff02"), looks := true }, kinds := [], alts := [], laidByText := true, laidKinds := [.data, .data, .data, .data, .sentinel, .sentinel, .pinned], laidTests := true, laidLooks := .later }
def LinearSpoiledUptoCardSaid : Prop := Claim7.holds Tryz.pinned (.plain (OpenSpec.upto linearSpoiledSpec)) linearSpoiledUptoCard

/-- THE SECOND FORM's CARD OF 'dowellaw06.LinearLimits'. -/
def linearLimitsUptoCard : Claim7 := { stood := { row := linearLimitsUptoRow, standIns := [], harness := (true, "d5ee74671f814f39e46abb7a5b207ebc6ab7512bb0bcac41082d168d5d0fff02"), looks := true }, kinds := [], alts := [], laidByText := true, laidKinds := [.data, .data, .data, .data, .sentinel, .sentinel, .pinned], laidTests := true, laidLooks := .later }
def LinearLimitsUptoCardSaid : Prop := Claim7.holds Tryz.pinned (.plain (OpenSpec.upto linearLimitsSpec)) linearLimitsUptoCard

/-- THE SECOND FORM's CARD OF 'dowellaw06.LinearSolves'. -/
def linearSolvesUptoCard : Claim7 := { stood := { row := linearSolvesUptoRow, standIns := [], harness := (true, "d5ee74671f814f39e46abb7a5b207ebc6ab7512bb0bcac41082d168d5d0fff02"), looks := true }, kinds := [], alts := [], laidByText := true, laidKinds := [.data, .data, .data, .data, .sentinel, .sentinel, .pinned], laidTests := true, laidLooks := .later }
def LinearSolvesUptoCardSaid : Prop := Claim7.holds Tryz.pinned (.plain (OpenSpec.upto linearSolvesSpec)) linearSolvesUptoCard
end Rows
end Go.Proofs.YtdefghfjhgmpfaaGreatDoor
