/-
  DERIVED. GIVEN WITH THE SEED: THE CARDS: each row of YtakbappmkdaioaaGreatDoorRows.lean that lists a variable, with what it lists TIED to the program's text (the seventh form; the later family's looks); each row that meets fmt, with fmt's text TOLD by the authors' own Lean function (tested against real Go, not proved from fmt's source: count such statements apart). THE CARD IS WHAT COUNTS. Prove the row's statement (the work); the ties are given (YtakbappmkdaioaaGreatDoorTie.lean); close each card by the builder's one call (the guide's Derived/Test/ToyasCard.lean, 'card_holds'). Laid BY PROGRAM, IN A SANDBOX (cutbox-door.mjs). By AI agents, Wed Nov 11 2026. No macro, syntax, notation, axiom, sorry.
-/
import Derived.Test.YtakbappmkdaioaaGreatDoorRows
import GoSem.ClaimSeven
namespace Go.Proofs.YtakbappmkdaioaaGreatDoor
namespace Rows

/-- THE TIED CARD OF 'sparselaw02.DyadRounds'. -/
def dyadRoundsCard : Claim7 := { stood := { row := dyadRoundsRow, standIns := [], harness := (true, "a78a13dc2b8f29d98df6d2f371a68e92fb3846cd6fa25dd152986f8cd3cc8b49"), looks := false }, kinds := [], alts := [], laidByText := true, laidKinds := [.data], laidTests := true, laidLooks := .later }
def DyadRoundsCardSaid : Prop := Claim7.holds Tryz.pinned (.plain (OpenSpec.ofChange dyadRoundsSpec)) dyadRoundsCard

/-- THE TIED CARD OF 'sparselaw06.AccumTwo'. -/
def accumTwoCard : Claim7 := { stood := { row := accumTwoRow, standIns := [], harness := (true, "a78a13dc2b8f29d98df6d2f371a68e92fb3846cd6fa25dd152986f8cd3cc8b49"), looks := false }, kinds := [], alts := [], laidByText := true, laidKinds := [.data], laidTests := true, laidLooks := .later }
def AccumTwoCardSaid : Prop := Claim7.holds Tryz.pinned (.plain (OpenSpec.ofChange accumTwoSpec)) accumTwoCard

/-- THE TIED CARD OF 'sparselaw06.AccumOrder'. -/
def accumOrderCard : Claim7 := { stood := { row := accumOrderRow, standIns := [], harness := (true, "a78a13dc2b8f29d98df6d2f371a68e92fb3846cd6fa25dd152986f8cd3cc8b49"), looks := false }, kinds := [], alts := [], laidByText := true, laidKinds := [.data], laidTests := true, laidLooks := .later }
def AccumOrderCardSaid : Prop := Claim7.holds Tryz.pinned (.plain (OpenSpec.ofChange accumOrderSpec)) accumOrderCard

/-- THE TIED CARD OF 'sparselaw06.AccumExact'. -/
def accumExactCard : Claim7 := { stood := { row := accumExactRow, standIns := [], harness := (true, "a78a13dc2b8f29d98df6d2f371a68e92fb3846cd6fa25dd152986f8cd3cc8b49"), looks := false }, kinds := [], alts := [], laidByText := true, laidKinds := [.data], laidTests := true, laidLooks := .later }
def AccumExactCardSaid : Prop := Claim7.holds Tryz.pinned (.plain (OpenSpec.ofChange accumExactSpec)) accumExactCard

/-- THE TIED CARD OF 'sparselaw03.FloatQuotients'. -/
def floatQuotientsCard : Claim7 := { stood := { row := floatQuotientsRow, standIns := [], harness := (true, "a78a13dc2b8f29d98df6d2f371a68e92fb3846cd6fa25dd152986f8cd3cc8b49"), looks := false }, kinds := [], alts := [], laidByText := true, laidKinds := [.data], laidTests := true, laidLooks := .later }
def FloatQuotientsCardSaid : Prop := Claim7.holds Tryz.pinned (.plain (OpenSpec.ofChange floatQuotientsSpec)) floatQuotientsCard

/-- THE TIED CARD OF 'sparselaw03.FloatForms'. -/
def floatFormsCard : Claim7 := { stood := { row := floatFormsRow, standIns := [], harness := (true, "a78a13dc2b8f29d98df6d2f371a68e92fb3846cd6fa25dd152986f8cd3cc8b49"), looks := false }, kinds := [], alts := [], laidByText := true, laidKinds := [.data], laidTests := true, laidLooks := .later }
def FloatFormsCardSaid : Prop := Claim7.holds Tryz.pinned (.plain (OpenSpec.ofChange floatFormsSpec)) floatFormsCard

/-- THE TIED CARD OF 'sparselaw03.FloatExact'. -/
def floatExactCard : Claim7 := { stood := { row := floatExactRow, standIns := [], harness := (true, "a78a13dc2b8f29d98df6d2f371a68e92fb3846cd6fa25dd152986f8cd3cc8b49"), looks := false }, kinds := [], alts := [], laidByText := true, laidKinds := [.data], laidTests := true, laidLooks := .later }
def FloatExactCardSaid : Prop := Claim7.holds Tryz.pinned (.plain (OpenSpec.ofChange floatExactSpec)) floatExactCard

/-- THE TIED CARD OF 'sparselaw06.AccumNorms'. -/
def accumNormsCard : Claim7 := { stood := { row := accumNormsRow, standIns := [], harness := (true, "a78a13dc2b8f29d98df6d2f371a68e92fb3846cd6fa25dd152986f8cd3cc8b49"), looks := false }, kinds := [], alts := [], laidByText := true, laidKinds := [.data], laidTests := true, laidLooks := .later }
def AccumNormsCardSaid : Prop := Claim7.holds Tryz.pinned (.plain (OpenSpec.ofChange accumNormsSpec)) accumNormsCard

/-- THE TIED CARD OF 'sparselaw05.IntervalRelations'. -/
def intervalRelationsCard : Claim7 := { stood := { row := intervalRelationsRow, standIns := [], harness := (true, "a78a13dc2b8f29d98df6d2f371a68e92fb3846cd6fa25dd152986f8cd3cc8b49"), looks := false }, kinds := [], alts := [], laidByText := true, laidKinds := [.data], laidTests := true, laidLooks := .later }
def IntervalRelationsCardSaid : Prop := Claim7.holds Tryz.pinned (.plain (OpenSpec.ofChange intervalRelationsSpec)) intervalRelationsCard

/-- THE TIED CARD OF 'sparselaw05.IntervalExact'. -/
def intervalExactCard : Claim7 := { stood := { row := intervalExactRow, standIns := [], harness := (true, "a78a13dc2b8f29d98df6d2f371a68e92fb3846cd6fa25dd152986f8cd3cc8b49"), looks := false }, kinds := [], alts := [], laidByText := true, laidKinds := [.data], laidTests := true, laidLooks := .later }
def IntervalExactCardSaid : Prop := Claim7.holds Tryz.pinned (.plain (OpenSpec.ofChange intervalExactSpec)) intervalExactCard

/-- THE TIED CARD OF 'sparselaw05.IntervalUndone'. -/
def intervalUndoneCard : Claim7 := { stood := { row := intervalUndoneRow, standIns := [], harness := (true, "a78a13dc2b8f29d98df6d2f371a68e92fb3846cd6fa25dd152986f8cd3cc8b49"), looks := false }, kinds := [], alts := [], laidByText := true, laidKinds := [.data], laidTests := true, laidLooks := .later }
def IntervalUndoneCardSaid : Prop := Claim7.holds Tryz.pinned (.plain (OpenSpec.ofChange intervalUndoneSpec)) intervalUndoneCard

/-- THE SECOND FORM's CARD OF 'sparselaw02.DyadRounds'. -/
def dyadRoundsUptoCard : Claim7 := { stood := { row := dyadRoundsUptoRow, standIns := [], harness := (true, "a78a13dc2b8f29d98df6d2f371a68e92fb3846cd6fa25dd152986f8cd3cc8b49"), looks := false }, kinds := [], alts := [], laidByText := true, laidKinds := [.data], laidTests := true, laidLooks := .later }
def DyadRoundsUptoCardSaid : Prop := Claim7.holds Tryz.pinned (.plain (OpenSpec.upto dyadRoundsSpec)) dyadRoundsUptoCard

/-- THE SECOND FORM's CARD OF 'sparselaw06.AccumTwo'. -/
def accumTwoUptoCard : Claim7 := { stood := { row := accumTwoUptoRow, standIns := [], harness := (true, "a78a13dc2b8f29d98df6d2f371a68e92fb3846cd6fa25dd152986f8cd3cc8b49"), looks := false }, kinds := [], alts := [], laidByText := true, laidKinds := [.data], laidTests := true, laidLooks := .later }
def AccumTwoUptoCardSaid : Prop := Claim7.holds Tryz.pinned (.plain (OpenSpec.upto accumTwoSpec)) accumTwoUptoCard

/-- THE SECOND FORM's CARD OF 'sparselaw06.AccumOrder'. -/
def accumOrderUptoCard : Claim7 := { stood := { row := accumOrderUptoRow, standIns := [], harness := (true, "a78a13dc2b8f29d98df6d2f371a68e92fb3846cd6fa25dd152986f8cd3cc8b49"), looks := false }, kinds := [], alts := [], laidByText := true, laidKinds := [.data], laidTests := true, laidLooks := .later }
def AccumOrderUptoCardSaid : Prop := Claim7.holds Tryz.pinned (.plain (OpenSpec.upto accumOrderSpec)) accumOrderUptoCard

/-- THE SECOND FORM's CARD OF 'sparselaw06.AccumExact'. -/
def accumExactUptoCard : Claim7 := { stood := { row := accumExactUptoRow, standIns := [], harness := (true, "a78a13dc2b8f29d98df6d2f371a68e92fb3846cd6fa25dd152986f8cd3cc8b49"), looks := false }, kinds := [], alts := [], laidByText := true, laidKinds := [.data], laidTests := true, laidLooks := .later }
def AccumExactUptoCardSaid : Prop := Claim7.holds Tryz.pinned (.plain (OpenSpec.upto accumExactSpec)) accumExactUptoCard

/-- THE SECOND FORM's CARD OF 'sparselaw03.FloatQuotients'. -/
def floatQuotientsUptoCard : Claim7 := { stood := { row := floatQuotientsUptoRow, standIns := [], harness := (true, "a78a13dc2b8f29d98df6d2f371a68e92fb3846cd6fa25dd152986f8cd3cc8b49"), looks := false }, kinds := [], alts := [], laidByText := true, laidKinds := [.data], laidTests := true, laidLooks := .later }
def FloatQuotientsUptoCardSaid : Prop := Claim7.holds Tryz.pinned (.plain (OpenSpec.upto floatQuotientsSpec)) floatQuotientsUptoCard

/-- THE SECOND FORM's CARD OF 'sparselaw03.FloatForms'. -/
def floatFormsUptoCard : Claim7 := { stood := { row := floatFormsUptoRow, standIns := [], harness := (true, "a78a13dc2b8f29d98df6d2f371a68e92fb3846cd6fa25dd152986f8cd3cc8b49"), looks := false }, kinds := [], alts := [], laidByText := true, laidKinds := [.data], laidTests := true, laidLooks := .later }
def FloatFormsUptoCardSaid : Prop := Claim7.holds Tryz.pinned (.plain (OpenSpec.upto floatFormsSpec)) floatFormsUptoCard

/-- THE SECOND FORM's CARD OF 'sparselaw03.FloatExact'. -/
def floatExactUptoCard : Claim7 := { stood := { row := floatExactUptoRow, standIns := [], harness := (true, "a78a13dc2b8f29d98df6d2f371a68e92fb3846cd6fa25dd152986f8cd3cc8b49"), looks := false }, kinds := [], alts := [], laidByText := true, laidKinds := [.data], laidTests := true, laidLooks := .later }
def FloatExactUptoCardSaid : Prop := Claim7.holds Tryz.pinned (.plain (OpenSpec.upto floatExactSpec)) floatExactUptoCard

/-- THE SECOND FORM's CARD OF 'sparselaw06.AccumNorms'. -/
def accumNormsUptoCard : Claim7 := { stood := { row := accumNormsUptoRow, standIns := [], harness := (true, "a78a13dc2b8f29d98df6d2f371a68e92fb3846cd6fa25dd152986f8cd3cc8b49"), looks := false }, kinds := [], alts := [], laidByText := true, laidKinds := [.data], laidTests := true, laidLooks := .later }
def AccumNormsUptoCardSaid : Prop := Claim7.holds Tryz.pinned (.plain (OpenSpec.upto accumNormsSpec)) accumNormsUptoCard

/-- THE SECOND FORM's CARD OF 'sparselaw05.IntervalRelations'. -/
def intervalRelationsUptoCard : Claim7 := { stood := { row := intervalRelationsUptoRow, standIns := [], harness := (true, "a78a13dc2b8f29d98df6d2f371a68e92fb3846cd6fa25dd152986f8cd3cc8b49"), looks := false }, kinds := [], alts := [], laidByText := true, laidKinds := [.data], laidTests := true, laidLooks := .later }
def IntervalRelationsUptoCardSaid : Prop := Claim7.holds Tryz.pinned (.plain (OpenSpec.upto intervalRelationsSpec)) intervalRelationsUptoCard

/-- THE SECOND FORM's CARD OF 'sparselaw05.IntervalExact'. -/
def intervalExactUptoCard : Claim7 := { stood := { row := intervalExactUptoRow, standIns := [], harness := (true, "a78a13dc2b8f29d98df6d2f371a68e92fb3846cd6fa25dd152986f8cd3cc8b49"), looks := false }, kinds := [], alts := [], laidByText := true, laidKinds := [.data], laidTests := true, laidLooks := .later }
def IntervalExactUptoCardSaid : Prop := Claim7.holds Tryz.pinned (.plain (OpenSpec.upto intervalExactSpec)) intervalExactUptoCard

/-- THE SECOND FORM's CARD OF 'sparselaw05.IntervalUndone'. -/
def intervalUndoneUptoCard : Claim7 := { stood := { row := intervalUndoneUptoRow, standIns := [], harness := (true, "a78a13dc2b8f29d98df6d2f371a68e92fb3846cd6fa25dd152986f8cd3cc8b49"), looks := false }, kinds := [], alts := [], laidByText := true, laidKinds := [.data], laidTests := true, laidLooks := .later }
def IntervalUndoneUptoCardSaid : Prop := Claim7.holds Tryz.pinned (.plain (OpenSpec.upto intervalUndoneSpec)) intervalUndoneUptoCard
end Rows
end Go.Proofs.YtakbappmkdaioaaGreatDoor
