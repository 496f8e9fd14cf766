/-
  DERIVED. GIVEN WITH THE SEED: THE CARDS: each row of YtjeaemoiafamaaaDoorRows.lean that lists a variable, with what it lists TIED to the program's text (the seventh form; the later family's looks); each row that meets fmt, with fmt's text TOLD by the authors' own Lean function (tested against real Go, not proved from fmt's source: count such statements apart). THE CARD IS WHAT COUNTS. Prove the row's statement (the work); the ties are given (YtjeaemoiafamaaaDoorTie.lean); close each card by the builder's one call (the guide's Derived/Test/ToyasCard.lean, 'card_holds'). Laid BY PROGRAM, IN A SANDBOX (cutbox-door.mjs). By AI agents, Wed Nov 11 2026. No macro, syntax, notation, axiom, sorry.
-/
import Derived.Test.YtjeaemoiafamaaaDoorRows
import GoSem.ClaimSeven
namespace Go.Proofs.YtjeaemoiafamaaaDoor
namespace Rows

/-- THE TIED CARD OF 'dowellaw01.IntegerFrom'. -/
def integerFromCard : Claim7 := { stood := { row := integerFromRow, standIns := [], harness := (true, "b8e58543a529613f751f62c69502411f664b93e4867ff6487a7340db5e4f00b4"), looks := true }, kinds := [], alts := [], laidByText := true, laidKinds := [.data, .data, .data], laidTests := true, laidLooks := .later }
def IntegerFromCardSaid : Prop := Claim7.holds Tryd.pinned (.plain (OpenSpec.ofChange integerFromSpec)) integerFromCard

/-- THE TIED CARD OF 'dowellaw01.IntegerParses'. -/
def integerParsesCard : Claim7 := { stood := { row := integerParsesRow, standIns := [], harness := (true, "b8e58543a529613f751f62c69502411f664b93e4867ff6487a7340db5e4f00b4"), looks := true }, kinds := [], alts := [], laidByText := true, laidKinds := [.data, .data, .data, .sentinel, .sentinel], laidTests := true, laidLooks := .later }
def IntegerParsesCardSaid : Prop := Claim7.holds Tryd.pinned (.plain (OpenSpec.ofChange integerParsesSpec)) integerParsesCard

/-- THE TIED CARD OF 'dowellaw01.IntegerMuls'. -/
def integerMulsCard : Claim7 := { stood := { row := integerMulsRow, standIns := [], harness := (true, "b8e58543a529613f751f62c69502411f664b93e4867ff6487a7340db5e4f00b4"), looks := true }, kinds := [], alts := [], laidByText := true, laidKinds := [.data, .data, .data, .sentinel, .sentinel], laidTests := true, laidLooks := .later }
def IntegerMulsCardSaid : Prop := Claim7.holds Tryd.pinned (.plain (OpenSpec.ofChange integerMulsSpec)) integerMulsCard

/-- THE TIED CARD OF 'dowellaw01.IntegerDivides'. -/
def integerDividesCard : Claim7 := { stood := { row := integerDividesRow, standIns := [], harness := (true, "b8e58543a529613f751f62c69502411f664b93e4867ff6487a7340db5e4f00b4"), looks := true }, kinds := [], alts := [], laidByText := true, laidKinds := [.data, .data, .data, .sentinel, .sentinel], laidTests := true, laidLooks := .later }
def IntegerDividesCardSaid : Prop := Claim7.holds Tryd.pinned (.plain (OpenSpec.ofChange integerDividesSpec)) integerDividesCard

/-- THE TIED CARD OF 'dowellaw01.IntegerGcds'. -/
def integerGcdsCard : Claim7 := { stood := { row := integerGcdsRow, standIns := [], harness := (true, "b8e58543a529613f751f62c69502411f664b93e4867ff6487a7340db5e4f00b4"), looks := true }, kinds := [], alts := [], laidByText := true, laidKinds := [.data, .data, .data, .sentinel, .sentinel], laidTests := true, laidLooks := .later }
def IntegerGcdsCardSaid : Prop := Claim7.holds Tryd.pinned (.plain (OpenSpec.ofChange integerGcdsSpec)) integerGcdsCard

/-- THE TIED CARD OF 'dowellaw01.IntegerPowers'. -/
def integerPowersCard : Claim7 := { stood := { row := integerPowersRow, standIns := [], harness := (true, "b8e58543a529613f751f62c69502411f664b93e4867ff6487a7340db5e4f00b4"), looks := true }, kinds := [], alts := [], laidByText := true, laidKinds := [.data, .data, .data, .sentinel, .sentinel], laidTests := true, laidLooks := .later }
def IntegerPowersCardSaid : Prop := Claim7.holds Tryd.pinned (.plain (OpenSpec.ofChange integerPowersSpec)) integerPowersCard

/-- THE TIED CARD OF 'dowellaw01.IntegerAdds'. -/
def integerAddsCard : Claim7 := { stood := { row := integerAddsRow, standIns := [], harness := (true, "b8e58543a529613f751f62c69502411f664b93e4867ff6487a7340db5e4f00b4"), looks := true }, kinds := [], alts := [], laidByText := true, laidKinds := [.data, .data, .data, .sentinel, .sentinel], laidTests := true, laidLooks := .later }
def IntegerAddsCardSaid : Prop := Claim7.holds Tryd.pinned (.plain (OpenSpec.ofChange integerAddsSpec)) integerAddsCard

/-- THE TIED CARD OF 'dowellaw01.IntegerCompares'. -/
def integerComparesCard : Claim7 := { stood := { row := integerComparesRow, standIns := [], harness := (true, "b8e58543a529613f751f62c69502411f664b93e4867ff6487a7340db5e4f00b4"), looks := true }, kinds := [], alts := [], laidByText := true, laidKinds := [.data, .data, .data, .sentinel, .sentinel], laidTests := true, laidLooks := .later }
def IntegerComparesCardSaid : Prop := Claim7.holds Tryd.pinned (.plain (OpenSpec.ofChange integerComparesSpec)) integerComparesCard

/-- THE TIED CARD OF 'dowellaw01.IntegerOrder'. -/
def integerOrderCard : Claim7 := { stood := { row := integerOrderRow, standIns := [], harness := (true, "b8e58543a529613f751f62c69502411f664b93e4867ff6487a7340db5e4f00b4"), looks := true }, kinds := [], alts := [], laidByText := true, laidKinds := [.data, .data, .data, .sentinel, .sentinel], laidTests := true, laidLooks := .later }
def IntegerOrderCardSaid : Prop := Claim7.holds Tryd.pinned (.plain (OpenSpec.ofChange integerOrderSpec)) integerOrderCard

/-- THE TIED CARD OF 'dowellaw01.IntegerInts'. -/
def integerIntsCard : Claim7 := { stood := { row := integerIntsRow, standIns := [], harness := (true, "b8e58543a529613f751f62c69502411f664b93e4867ff6487a7340db5e4f00b4"), looks := true }, kinds := [], alts := [], laidByText := true, laidKinds := [.data, .data, .data, .sentinel, .sentinel], laidTests := true, laidLooks := .later }
def IntegerIntsCardSaid : Prop := Claim7.holds Tryd.pinned (.plain (OpenSpec.ofChange integerIntsSpec)) integerIntsCard

/-- THE TIED CARD OF 'dowellaw01.IntegerRing'. -/
def integerRingCard : Claim7 := { stood := { row := integerRingRow, standIns := [], harness := (true, "b8e58543a529613f751f62c69502411f664b93e4867ff6487a7340db5e4f00b4"), looks := true }, kinds := [], alts := [], laidByText := true, laidKinds := [.data, .data, .data, .sentinel, .sentinel], laidTests := true, laidLooks := .later }
def IntegerRingCardSaid : Prop := Claim7.holds Tryd.pinned (.plain (OpenSpec.ofChange integerRingSpec)) integerRingCard

/-- THE SECOND FORM's CARD OF 'dowellaw01.IntegerFrom'. -/
def integerFromUptoCard : Claim7 := { stood := { row := integerFromUptoRow, standIns := [], harness := (true, "b8e58543a529613f751f62c69502411f664b93e4867ff6487a7340db5e4f00b4"), looks := true }, kinds := [], alts := [], laidByText := true, laidKinds := [.data, .data, .data], laidTests := true, laidLooks := .later }
def IntegerFromUptoCardSaid : Prop := Claim7.holds Tryd.pinned (.plain (OpenSpec.upto integerFromSpec)) integerFromUptoCard

/-- THE SECOND FORM's CARD OF 'dowellaw01.IntegerParses'. -/
def integerParsesUptoCard : Claim7 := { stood := { row := integerParsesUptoRow, standIns := [], harness := (true, "b8e58543a529613f751f62c69502411f664b93e4867ff6487a7340db5e4f00b4"), looks := true }, kinds := [], alts := [], laidByText := true, laidKinds := [.data, .data, .data, .sentinel, .sentinel], laidTests := true, laidLooks := .later }
def IntegerParsesUptoCardSaid : Prop := Claim7.holds Tryd.pinned (.plain (OpenSpec.upto integerParsesSpec)) integerParsesUptoCard

/-- THE SECOND FORM's CARD OF 'dowellaw01.IntegerMuls'. -/
def integerMulsUptoCard : Claim7 := { stood := { row := integerMulsUptoRow, standIns := [], harness := (true, "b8e58543a529613f751f62c69502411f664b93e4867ff6487a7340db5e4f00b4"), looks := true }, kinds := [], alts := [], laidByText := true, laidKinds := [.data, .data, .data, .sentinel, .sentinel], laidTests := true, laidLooks := .later }
def IntegerMulsUptoCardSaid : Prop := Claim7.holds Tryd.pinned (.plain (OpenSpec.upto integerMulsSpec)) integerMulsUptoCard

/-- THE SECOND FORM's CARD OF 'dowellaw01.IntegerDivides'. -/
def integerDividesUptoCard : Claim7 := { stood := { row := integerDividesUptoRow, standIns := [], harness := (true, "b8e58543a529613f751f62c69502411f664b93e4867ff6487a7340db5e4f00b4"), looks := true }, kinds := [], alts := [], laidByText := true, laidKinds := [.data, .data, .data, .sentinel, .sentinel], laidTests := true, laidLooks := .later }
def IntegerDividesUptoCardSaid : Prop := Claim7.holds Tryd.pinned (.plain (OpenSpec.upto integerDividesSpec)) integerDividesUptoCard

/-- THE SECOND FORM's CARD OF 'dowellaw01.IntegerGcds'. -/
def integerGcdsUptoCard : Claim7 := { stood := { row := integerGcdsUptoRow, standIns := [], harness := (true, "b8e58543a529613f751f62c69502411f664b93e4867ff6487a7340db5e4f00b4"), looks := true }, kinds := [], alts := [], laidByText := true, laidKinds := [.data, .data, .data, .sentinel, .sentinel], laidTests := true, laidLooks := .later }
def IntegerGcdsUptoCardSaid : Prop := Claim7.holds Tryd.pinned (.plain (OpenSpec.upto integerGcdsSpec)) integerGcdsUptoCard

/-- THE SECOND FORM's CARD OF 'dowellaw01.IntegerPowers'. -/
def integerPowersUptoCard : Claim7 := { stood := { row := integerPowersUptoRow, standIns := [], harness := (true, "b8e58543a529613f751f62c69502411f664b93e4867ff6487a7340db5e4f00b4"), looks := true }, kinds := [], alts := [], laidByText := true, laidKinds := [.data, .data, .data, .sentinel, .sentinel], laidTests := true, laidLooks := .later }
def IntegerPowersUptoCardSaid : Prop := Claim7.holds Tryd.pinned (.plain (OpenSpec.upto integerPowersSpec)) integerPowersUptoCard

/-- THE SECOND FORM's CARD OF 'dowellaw01.IntegerAdds'. -/
def integerAddsUptoCard : Claim7 := { stood := { row := integerAddsUptoRow, standIns := [], harness := (true, "b8e58543a529613f751f62c69502411f664b93e4867ff6487a7340db5e4f00b4"), looks := true }, kinds := [], alts := [], laidByText := true, laidKinds := [.data, .data, .data, .sentinel, .sentinel], laidTests := true, laidLooks := .later }
def IntegerAddsUptoCardSaid : Prop := Claim7.holds Tryd.pinned (.plain (OpenSpec.upto integerAddsSpec)) integerAddsUptoCard

/-- THE SECOND FORM's CARD OF 'dowellaw01.IntegerCompares'. -/
def integerComparesUptoCard : Claim7 := { stood := { row := integerComparesUptoRow, standIns := [], harness := (true, "b8e58543a529613f751f62c69502411f664b93e4867ff6487a7340db5e4f00b4"), looks := true }, kinds := [], alts := [], laidByText := true, laidKinds := [.data, .data, .data, .sentinel, .sentinel], laidTests := true, laidLooks := .later }
def IntegerComparesUptoCardSaid : Prop := Claim7.holds Tryd.pinned (.plain (OpenSpec.upto integerComparesSpec)) integerComparesUptoCard

/-- THE SECOND FORM's CARD OF 'dowellaw01.IntegerOrder'. -/
def integerOrderUptoCard : Claim7 := { stood := { row := integerOrderUptoRow, standIns := [], harness := (true, "b8e58543a529613f751f62c69502411f664b93e4867ff6487a7340db5e4f00b4"), looks := true }, kinds := [], alts := [], laidByText := true, laidKinds := [.data, .data, .data, .sentinel, .sentinel], laidTests := true, laidLooks := .later }
def IntegerOrderUptoCardSaid : Prop := Claim7.holds Tryd.pinned (.plain (OpenSpec.upto integerOrderSpec)) integerOrderUptoCard

/-- THE SECOND FORM's CARD OF 'dowellaw01.IntegerInts'. -/
def integerIntsUptoCard : Claim7 := { stood := { row := integerIntsUptoRow, standIns := [], harness := (true, "b8e58543a529613f751f62c69502411f664b93e4867ff6487a7340db5e4f00b4"), looks := true }, kinds := [], alts := [], laidByText := true, laidKinds := [.data, .data, .data, .sentinel, .sentinel], laidTests := true, laidLooks := .later }
def IntegerIntsUptoCardSaid : Prop := Claim7.holds Tryd.pinned (.plain (OpenSpec.upto integerIntsSpec)) integerIntsUptoCard

/-- THE SECOND FORM's CARD OF 'dowellaw01.IntegerRing'. -/
def integerRingUptoCard : Claim7 := { stood := { row := integerRingUptoRow, standIns := [], harness := (true, "b8e58543a529613f751f62c69502411f664b93e4867ff6487a7340db5e4f00b4"), looks := true }, kinds := [], alts := [], laidByText := true, laidKinds := [.data, .data, .data, .sentinel, .sentinel], laidTests := true, laidLooks := .later }
def IntegerRingUptoCardSaid : Prop := Claim7.holds Tryd.pinned (.plain (OpenSpec.upto integerRingSpec)) integerRingUptoCard
end Rows
end Go.Proofs.YtjeaemoiafamaaaDoor
