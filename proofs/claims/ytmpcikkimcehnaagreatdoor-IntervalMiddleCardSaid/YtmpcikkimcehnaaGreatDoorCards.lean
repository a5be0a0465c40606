/-
  DERIVED. GIVEN WITH THE SEED: THE CARDS: each row of YtmpcikkimcehnaaGreatDoorRows.lean that lists a variable, with what it lists TIED to the program's text (the seventh form; the later family's looks); each row that meets fmt, with fmt's text TOLD by the authors' own Lean function (tested against real Go, not proved from fmt's source: count such statements apart). THE CARD IS WHAT COUNTS. Prove the row's statement (the work); the ties are given (YtmpcikkimcehnaaGreatDoorTie.lean); close each card by the builder's one call (the guide's Derived/Test/ToyasCard.lean, 'card_holds'). Laid BY PROGRAM, IN A SANDBOX (cutbox-door.mjs). By AI agents, Wed Nov 11 2026. No macro, syntax, notation, axiom, sorry.
-/
import Derived.Test.YtmpcikkimcehnaaGreatDoorRows
import GoSem.ClaimSeven
namespace Go.Proofs.YtmpcikkimcehnaaGreatDoor
namespace Rows

/-- THE TIED CARD OF 'sparselaw02.DyadRounds'. -/
def dyadRoundsCard : Claim7 := { stood := { row := dyadRoundsRow, standIns := [], harness := (true, "d627fb8e5be83fdccff1f4fbe3d7bc2b449b4fb5278c8b632c789ed982acc161"), looks := false }, kinds := [], alts := [], laidByText := true, laidKinds := [.data], laidTests := true, laidLooks := .later }
def DyadRoundsCardSaid : Prop := Claim7.holds Tryz.pinned (.plain (OpenSpec.ofChange dyadRoundsSpec)) dyadRoundsCard

/-- THE TIED CARD OF 'sparselaw06.AccumTwo'. -/
def accumTwoCard : Claim7 := { stood := { row := accumTwoRow, standIns := [], harness := (true, "d627fb8e5be83fdccff1f4fbe3d7bc2b449b4fb5278c8b632c789ed982acc161"), looks := false }, kinds := [], alts := [], laidByText := true, laidKinds := [.data], laidTests := true, laidLooks := .later }
def AccumTwoCardSaid : Prop := Claim7.holds Tryz.pinned (.plain (OpenSpec.ofChange accumTwoSpec)) accumTwoCard

/-- THE TIED CARD OF 'sparselaw06.AccumFree'. -/
def accumFreeCard : Claim7 := { stood := { row := accumFreeRow, standIns := [], harness := (true, "d627fb8e5be83fdccff1f4fbe3d7bc2b449b4fb5278c8b632c789ed982acc161"), looks := false }, kinds := [], alts := [], laidByText := true, laidKinds := [.data], laidTests := true, laidLooks := .later }
def AccumFreeCardSaid : Prop := Claim7.holds Tryz.pinned (.plain (OpenSpec.ofChange accumFreeSpec)) accumFreeCard

/-- THE TIED CARD OF 'sparselaw06.AccumOrder'. -/
def accumOrderCard : Claim7 := { stood := { row := accumOrderRow, standIns := [], harness := (true, "d627fb8e5be83fdccff1f4fbe3d7bc2b449b4fb5278c8b632c789ed982acc161"), looks := false }, kinds := [], alts := [], laidByText := true, laidKinds := [.data], laidTests := true, laidLooks := .later }
def AccumOrderCardSaid : Prop := Claim7.holds Tryz.pinned (.plain (OpenSpec.ofChange accumOrderSpec)) accumOrderCard

/-- THE TIED CARD OF 'sparselaw06.AccumExact'. -/
def accumExactCard : Claim7 := { stood := { row := accumExactRow, standIns := [], harness := (true, "d627fb8e5be83fdccff1f4fbe3d7bc2b449b4fb5278c8b632c789ed982acc161"), looks := false }, kinds := [], alts := [], laidByText := true, laidKinds := [.data], laidTests := true, laidLooks := .later }
def AccumExactCardSaid : Prop := Claim7.holds Tryz.pinned (.plain (OpenSpec.ofChange accumExactSpec)) accumExactCard

/-- THE TIED CARD OF 'sparselaw06.AccumResidual'. -/
def accumResidualCard : Claim7 := { stood := { row := accumResidualRow, standIns := [], harness := (true, "d627fb8e5be83fdccff1f4fbe3d7bc2b449b4fb5278c8b632c789ed982acc161"), looks := false }, kinds := [], alts := [], laidByText := true, laidKinds := [.data], laidTests := true, laidLooks := .later }
def AccumResidualCardSaid : Prop := Claim7.holds Tryz.pinned (.plain (OpenSpec.ofChange accumResidualSpec)) accumResidualCard

/-- THE TIED CARD OF 'sparselaw06.AccumCauchy'. -/
def accumCauchyCard : Claim7 := { stood := { row := accumCauchyRow, standIns := [], harness := (true, "d627fb8e5be83fdccff1f4fbe3d7bc2b449b4fb5278c8b632c789ed982acc161"), looks := false }, kinds := [], alts := [], laidByText := true, laidKinds := [.data], laidTests := true, laidLooks := .later }
def AccumCauchyCardSaid : Prop := Claim7.holds Tryz.pinned (.plain (OpenSpec.ofChange accumCauchySpec)) accumCauchyCard

/-- THE TIED CARD OF 'sparselaw05.IntervalMeets'. -/
def intervalMeetsCard : Claim7 := { stood := { row := intervalMeetsRow, standIns := [], harness := (true, "d627fb8e5be83fdccff1f4fbe3d7bc2b449b4fb5278c8b632c789ed982acc161"), looks := false }, kinds := [], alts := [], laidByText := true, laidKinds := [.data], laidTests := true, laidLooks := .later }
def IntervalMeetsCardSaid : Prop := Claim7.holds Tryz.pinned (.plain (OpenSpec.ofChange intervalMeetsSpec)) intervalMeetsCard

/-- THE TIED CARD OF 'sparselaw03.FloatQuotients'. -/
def floatQuotientsCard : Claim7 := { stood := { row := floatQuotientsRow, standIns := [], harness := (true, "d627fb8e5be83fdccff1f4fbe3d7bc2b449b4fb5278c8b632c789ed982acc161"), looks := false }, kinds := [], alts := [], laidByText := true, laidKinds := [.data], laidTests := true, laidLooks := .later }
def FloatQuotientsCardSaid : Prop := Claim7.holds Tryz.pinned (.plain (OpenSpec.ofChange floatQuotientsSpec)) floatQuotientsCard

/-- THE TIED CARD OF 'sparselaw06.AccumRoots'. -/
def accumRootsCard : Claim7 := { stood := { row := accumRootsRow, standIns := [], harness := (true, "d627fb8e5be83fdccff1f4fbe3d7bc2b449b4fb5278c8b632c789ed982acc161"), looks := false }, kinds := [], alts := [], laidByText := true, laidKinds := [.data], laidTests := true, laidLooks := .later }
def AccumRootsCardSaid : Prop := Claim7.holds Tryz.pinned (.plain (OpenSpec.ofChange accumRootsSpec)) accumRootsCard

/-- THE TIED CARD OF 'sparselaw03.FloatForms'. -/
def floatFormsCard : Claim7 := { stood := { row := floatFormsRow, standIns := [], harness := (true, "d627fb8e5be83fdccff1f4fbe3d7bc2b449b4fb5278c8b632c789ed982acc161"), looks := false }, kinds := [], alts := [], laidByText := true, laidKinds := [.data], laidTests := true, laidLooks := .later }
def FloatFormsCardSaid : Prop := Claim7.holds Tryz.pinned (.plain (OpenSpec.ofChange floatFormsSpec)) floatFormsCard

/-- THE TIED CARD OF 'sparselaw03.FloatExact'. -/
def floatExactCard : Claim7 := { stood := { row := floatExactRow, standIns := [], harness := (true, "d627fb8e5be83fdccff1f4fbe3d7bc2b449b4fb5278c8b632c789ed982acc161"), looks := false }, kinds := [], alts := [], laidByText := true, laidKinds := [.data], laidTests := true, laidLooks := .later }
def FloatExactCardSaid : Prop := Claim7.holds Tryz.pinned (.plain (OpenSpec.ofChange floatExactSpec)) floatExactCard

/-- THE TIED CARD OF 'sparselaw05.IntervalMiddle'. -/
def intervalMiddleCard : Claim7 := { stood := { row := intervalMiddleRow, standIns := [], harness := (true, "d627fb8e5be83fdccff1f4fbe3d7bc2b449b4fb5278c8b632c789ed982acc161"), looks := false }, kinds := [], alts := [], laidByText := true, laidKinds := [.data], laidTests := true, laidLooks := .later }
def IntervalMiddleCardSaid : Prop := Claim7.holds Tryz.pinned (.plain (OpenSpec.ofChange intervalMiddleSpec)) intervalMiddleCard

/-- THE TIED CARD OF 'sparselaw06.AccumNorms'. -/
def accumNormsCard : Claim7 := { stood := { row := accumNormsRow, standIns := [], harness := (true, "d627fb8e5be83fdccff1f4fbe3d7bc2b449b4fb5278c8b632c789ed982acc161"), looks := false }, kinds := [], alts := [], laidByText := true, laidKinds := [.data], laidTests := true, laidLooks := .later }
def AccumNormsCardSaid : Prop := Claim7.holds Tryz.pinned (.plain (OpenSpec.ofChange accumNormsSpec)) accumNormsCard

/-- THE TIED CARD OF 'sparselaw05.IntervalRelations'. -/
def intervalRelationsCard : Claim7 := { stood := { row := intervalRelationsRow, standIns := [], harness := (true, "d627fb8e5be83fdccff1f4fbe3d7bc2b449b4fb5278c8b632c789ed982acc161"), looks := false }, kinds := [], alts := [], laidByText := true, laidKinds := [.data], laidTests := true, laidLooks := .later }
def IntervalRelationsCardSaid : Prop := Claim7.holds Tryz.pinned (.plain (OpenSpec.ofChange intervalRelationsSpec)) intervalRelationsCard

/-- THE TIED CARD OF 'sparselaw05.IntervalMonotone'. -/
def intervalMonotoneCard : Claim7 := { stood := { row := intervalMonotoneRow, standIns := [], harness := (true, "d627fb8e5be83fdccff1f4fbe3d7bc2b449b4fb5278c8b632c789ed982acc161"), looks := false }, kinds := [], alts := [], laidByText := true, laidKinds := [.data], laidTests := true, laidLooks := .later }
def IntervalMonotoneCardSaid : Prop := Claim7.holds Tryz.pinned (.plain (OpenSpec.ofChange intervalMonotoneSpec)) intervalMonotoneCard

/-- THE TIED CARD OF 'sparselaw05.IntervalWhole'. -/
def intervalWholeCard : Claim7 := { stood := { row := intervalWholeRow, standIns := [], harness := (true, "d627fb8e5be83fdccff1f4fbe3d7bc2b449b4fb5278c8b632c789ed982acc161"), looks := false }, kinds := [], alts := [], laidByText := true, laidKinds := [.data], laidTests := true, laidLooks := .later }
def IntervalWholeCardSaid : Prop := Claim7.holds Tryz.pinned (.plain (OpenSpec.ofChange intervalWholeSpec)) intervalWholeCard

/-- THE TIED CARD OF 'sparselaw05.IntervalHolds'. -/
def intervalHoldsCard : Claim7 := { stood := { row := intervalHoldsRow, standIns := [], harness := (true, "d627fb8e5be83fdccff1f4fbe3d7bc2b449b4fb5278c8b632c789ed982acc161"), looks := false }, kinds := [], alts := [], laidByText := true, laidKinds := [.data], laidTests := true, laidLooks := .later }
def IntervalHoldsCardSaid : Prop := Claim7.holds Tryz.pinned (.plain (OpenSpec.ofChange intervalHoldsSpec)) intervalHoldsCard

/-- THE TIED CARD OF 'sparselaw05.IntervalExact'. -/
def intervalExactCard : Claim7 := { stood := { row := intervalExactRow, standIns := [], harness := (true, "d627fb8e5be83fdccff1f4fbe3d7bc2b449b4fb5278c8b632c789ed982acc161"), looks := false }, kinds := [], alts := [], laidByText := true, laidKinds := [.data], laidTests := true, laidLooks := .later }
def IntervalExactCardSaid : Prop := Claim7.holds Tryz.pinned (.plain (OpenSpec.ofChange intervalExactSpec)) intervalExactCard

/-- THE TIED CARD OF 'sparselaw05.IntervalUndone'. -/
def intervalUndoneCard : Claim7 := { stood := { row := intervalUndoneRow, standIns := [], harness := (true, "d627fb8e5be83fdccff1f4fbe3d7bc2b449b4fb5278c8b632c789ed982acc161"), looks := false }, kinds := [], alts := [], laidByText := true, laidKinds := [.data], laidTests := true, laidLooks := .later }
def IntervalUndoneCardSaid : Prop := Claim7.holds Tryz.pinned (.plain (OpenSpec.ofChange intervalUndoneSpec)) intervalUndoneCard

/-- THE SECOND FORM's CARD OF 'sparselaw02.DyadRounds'. -/
def dyadRoundsUptoCard : Claim7 := { stood := { row := dyadRoundsUptoRow, standIns := [], harness := (true, "d627fb8e5be83fdccff1f4fbe3d7bc2b449b4fb5278c8b632c789ed982acc161"), looks := false }, kinds := [], alts := [], laidByText := true, laidKinds := [.data], laidTests := true, laidLooks := .later }
def DyadRoundsUptoCardSaid : Prop := Claim7.holds Tryz.pinned (.plain (OpenSpec.upto dyadRoundsSpec)) dyadRoundsUptoCard

/-- THE SECOND FORM's CARD OF 'sparselaw06.AccumTwo'. -/
def accumTwoUptoCard : Claim7 := { stood := { row := accumTwoUptoRow, standIns := [], harness := (true, "d627fb8e5be83fdccff1f4fbe3d7bc2b449b4fb5278c8b632c789ed982acc161"), looks := false }, kinds := [], alts := [], laidByText := true, laidKinds := [.data], laidTests := true, laidLooks := .later }
def AccumTwoUptoCardSaid : Prop := Claim7.holds Tryz.pinned (.plain (OpenSpec.upto accumTwoSpec)) accumTwoUptoCard

/-- THE SECOND FORM's CARD OF 'sparselaw06.AccumFree'. -/
def accumFreeUptoCard : Claim7 := { stood := { row := accumFreeUptoRow, standIns := [], harness := (true, "d627fb8e5be83fdccff1f4fbe3d7bc2b449b4fb5278c8b632c789ed982acc161"), looks := false }, kinds := [], alts := [], laidByText := true, laidKinds := [.data], laidTests := true, laidLooks := .later }
def AccumFreeUptoCardSaid : Prop := Claim7.holds Tryz.pinned (.plain (OpenSpec.upto accumFreeSpec)) accumFreeUptoCard

/-- THE SECOND FORM's CARD OF 'sparselaw06.AccumOrder'. -/
def accumOrderUptoCard : Claim7 := { stood := { row := accumOrderUptoRow, standIns := [], harness := (true, "d627fb8e5be83fdccff1f4fbe3d7bc2b449b4fb5278c8b632c789ed982acc161"), looks := false }, kinds := [], alts := [], laidByText := true, laidKinds := [.data], laidTests := true, laidLooks := .later }
def AccumOrderUptoCardSaid : Prop := Claim7.holds Tryz.pinned (.plain (OpenSpec.upto accumOrderSpec)) accumOrderUptoCard

/-- THE SECOND FORM's CARD OF 'sparselaw06.AccumExact'. -/
def accumExactUptoCard : Claim7 := { stood := { row := accumExactUptoRow, standIns := [], harness := (true, "d627fb8e5be83fdccff1f4fbe3d7bc2b449b4fb5278c8b632c789ed982acc161"), looks := false }, kinds := [], alts := [], laidByText := true, laidKinds := [.data], laidTests := true, laidLooks := .later }
def AccumExactUptoCardSaid : Prop := Claim7.holds Tryz.pinned (.plain (OpenSpec.upto accumExactSpec)) accumExactUptoCard

/-- THE SECOND FORM's CARD OF 'sparselaw06.AccumResidual'. -/
def accumResidualUptoCard : Claim7 := { stood := { row := accumResidualUptoRow, standIns := [], harness := (true, "d627fb8e5be83fdccff1f4fbe3d7bc2b449b4fb5278c8b632c789ed982acc161"), looks := false }, kinds := [], alts := [], laidByText := true, laidKinds := [.data], laidTests := true, laidLooks := .later }
def AccumResidualUptoCardSaid : Prop := Claim7.holds Tryz.pinned (.plain (OpenSpec.upto accumResidualSpec)) accumResidualUptoCard

/-- THE SECOND FORM's CARD OF 'sparselaw06.AccumCauchy'. -/
def accumCauchyUptoCard : Claim7 := { stood := { row := accumCauchyUptoRow, standIns := [], harness := (true, "d627fb8e5be83fdccff1f4fbe3d7bc2b449b4fb5278c8b632c789ed982acc161"), looks := false }, kinds := [], alts := [], laidByText := true, laidKinds := [.data], laidTests := true, laidLooks := .later }
def AccumCauchyUptoCardSaid : Prop := Claim7.holds Tryz.pinned (.plain (OpenSpec.upto accumCauchySpec)) accumCauchyUptoCard

/-- THE SECOND FORM's CARD OF 'sparselaw05.IntervalMeets'. -/
def intervalMeetsUptoCard : Claim7 := { stood := { row := intervalMeetsUptoRow, standIns := [], harness := (true, "d627fb8e5be83fdccff1f4fbe3d7bc2b449b4fb5278c8b632c789ed982acc161"), looks := false }, kinds := [], alts := [], laidByText := true, laidKinds := [.data], laidTests := true, laidLooks := .later }
def IntervalMeetsUptoCardSaid : Prop := Claim7.holds Tryz.pinned (.plain (OpenSpec.upto intervalMeetsSpec)) intervalMeetsUptoCard

/-- THE SECOND FORM's CARD OF 'sparselaw03.FloatQuotients'. -/
def floatQuotientsUptoCard : Claim7 := { stood := { row := floatQuotientsUptoRow, standIns := [], harness := (true, "d627fb8e5be83fdccff1f4fbe3d7bc2b449b4fb5278c8b632c789ed982acc161"), looks := false }, kinds := [], alts := [], laidByText := true, laidKinds := [.data], laidTests := true, laidLooks := .later }
def FloatQuotientsUptoCardSaid : Prop := Claim7.holds Tryz.pinned (.plain (OpenSpec.upto floatQuotientsSpec)) floatQuotientsUptoCard

/-- THE SECOND FORM's CARD OF 'sparselaw06.AccumRoots'. -/
def accumRootsUptoCard : Claim7 := { stood := { row := accumRootsUptoRow, standIns := [], harness := (true, "d627fb8e5be83fdccff1f4fbe3d7bc2b449b4fb5278c8b632c789ed982acc161"), looks := false }, kinds := [], alts := [], laidByText := true, laidKinds := [.data], laidTests := true, laidLooks := .later }
def AccumRootsUptoCardSaid : Prop := Claim7.holds Tryz.pinned (.plain (OpenSpec.upto accumRootsSpec)) accumRootsUptoCard

/-- THE SECOND FORM's CARD OF 'sparselaw03.FloatForms'. -/
def floatFormsUptoCard : Claim7 := { stood := { row := floatFormsUptoRow, standIns := [], harness := (true, "d627fb8e5be83fdccff1f4fbe3d7bc2b449b4fb5278c8b632c789ed982acc161"), looks := false }, kinds := [], alts := [], laidByText := true, laidKinds := [.data], laidTests := true, laidLooks := .later }
def FloatFormsUptoCardSaid : Prop := Claim7.holds Tryz.pinned (.plain (OpenSpec.upto floatFormsSpec)) floatFormsUptoCard

/-- THE SECOND FORM's CARD OF 'sparselaw03.FloatExact'. -/
def floatExactUptoCard : Claim7 := { stood := { row := floatExactUptoRow, standIns := [], harness := (true, "d627fb8e5be83fdccff1f4fbe3d7bc2b449b4fb5278c8b632c789ed982acc161"), looks := false }, kinds := [], alts := [], laidByText := true, laidKinds := [.data], laidTests := true, laidLooks := .later }
def FloatExactUptoCardSaid : Prop := Claim7.holds Tryz.pinned (.plain (OpenSpec.upto floatExactSpec)) floatExactUptoCard

/-- THE SECOND FORM's CARD OF 'sparselaw05.IntervalMiddle'. -/
def intervalMiddleUptoCard : Claim7 := { stood := { row := intervalMiddleUptoRow, standIns := [], harness := (true, "d627fb8e5be83fdccff1f4fbe3d7bc2b449b4fb5278c8b632c789ed982acc161"), looks := false }, kinds := [], alts := [], laidByText := true, laidKinds := [.data], laidTests := true, laidLooks := .later }
def IntervalMiddleUptoCardSaid : Prop := Claim7.holds Tryz.pinned (.plain (OpenSpec.upto intervalMiddleSpec)) intervalMiddleUptoCard

/-- THE SECOND FORM's CARD OF 'sparselaw06.AccumNorms'. -/
def accumNormsUptoCard : Claim7 := { stood := { row := accumNormsUptoRow, standIns := [], harness := (true, "d627fb8e5be83fdccff1f4fbe3d7bc2b449b4fb5278c8b632c789ed982acc161"), looks := false }, kinds := [], alts := [], laidByText := true, laidKinds := [.data], laidTests := true, laidLooks := .later }
def AccumNormsUptoCardSaid : Prop := Claim7.holds Tryz.pinned (.plain (OpenSpec.upto accumNormsSpec)) accumNormsUptoCard

/-- THE SECOND FORM's CARD OF 'sparselaw05.IntervalRelations'. -/
def intervalRelationsUptoCard : Claim7 := { stood := { row := intervalRelationsUptoRow, standIns := [], harness := (true, "d627fb8e5be83fdccff1f4fbe3d7bc2b449b4fb5278c8b632c789ed982acc161"), looks := false }, kinds := [], alts := [], laidByText := true, laidKinds := [.data], laidTests := true, laidLooks := .later }
def IntervalRelationsUptoCardSaid : Prop := Claim7.holds Tryz.pinned (.plain (OpenSpec.upto intervalRelationsSpec)) intervalRelationsUptoCard

/-- THE SECOND FORM's CARD OF 'sparselaw05.IntervalMonotone'. -/
def intervalMonotoneUptoCard : Claim7 := { stood := { row := intervalMonotoneUptoRow, standIns := [], harness := (true, "d627fb8e5be83fdccff1f4fbe3d7bc2b449b4fb5278c8b632c789ed982acc161"), looks := false }, kinds := [], alts := [], laidByText := true, laidKinds := [.data], laidTests := true, laidLooks := .later }
def IntervalMonotoneUptoCardSaid : Prop := Claim7.holds Tryz.pinned (.plain (OpenSpec.upto intervalMonotoneSpec)) intervalMonotoneUptoCard

/-- THE SECOND FORM's CARD OF 'sparselaw05.IntervalWhole'. -/
def intervalWholeUptoCard : Claim7 := { stood := { row := intervalWholeUptoRow, standIns := [], harness := (true, "d627fb8e5be83fdccff1f4fbe3d7bc2b449b4fb5278c8b632c789ed982acc161"), looks := false }, kinds := [], alts := [], laidByText := true, laidKinds := [.data], laidTests := true, laidLooks := .later }
def IntervalWholeUptoCardSaid : Prop := Claim7.holds Tryz.pinned (.plain (OpenSpec.upto intervalWholeSpec)) intervalWholeUptoCard

/-- THE SECOND FORM's CARD OF 'sparselaw05.IntervalHolds'. -/
def intervalHoldsUptoCard : Claim7 := { stood := { row := intervalHoldsUptoRow, standIns := [], harness := (true, "d627fb8e5be83fdccff1f4fbe3d7bc2b449b4fb5278c8b632c789ed982acc161"), looks := false }, kinds := [], alts := [], laidByText := true, laidKinds := [.data], laidTests := true, laidLooks := .later }
def IntervalHoldsUptoCardSaid : Prop := Claim7.holds Tryz.pinned (.plain (OpenSpec.upto intervalHoldsSpec)) intervalHoldsUptoCard

/-- THE SECOND FORM's CARD OF 'sparselaw05.IntervalExact'. -/
def intervalExactUptoCard : Claim7 := { stood := { row := intervalExactUptoRow, standIns := [], harness := (true, "d627fb8e5be83fdccff1f4fbe3d7bc2b449b4fb5278c8b632c789ed982acc161"), looks := false }, kinds := [], alts := [], laidByText := true, laidKinds := [.data], laidTests := true, laidLooks := .later }
def IntervalExactUptoCardSaid : Prop := Claim7.holds Tryz.pinned (.plain (OpenSpec.upto intervalExactSpec)) intervalExactUptoCard

/-- THE SECOND FORM's CARD OF 'sparselaw05.IntervalUndone'. -/
def intervalUndoneUptoCard : Claim7 := { stood := { row := intervalUndoneUptoRow, standIns := [], harness := (true, "d627fb8e5be83fdccff1f4fbe3d7bc2b449b4fb5278c8b632c789ed982acc161"), looks := false }, kinds := [], alts := [], laidByText := true, laidKinds := [.data], laidTests := true, laidLooks := .later }
def IntervalUndoneUptoCardSaid : Prop := Claim7.holds Tryz.pinned (.plain (OpenSpec.upto intervalUndoneSpec)) intervalUndoneUptoCard
end Rows
end Go.Proofs.YtmpcikkimcehnaaGreatDoor
