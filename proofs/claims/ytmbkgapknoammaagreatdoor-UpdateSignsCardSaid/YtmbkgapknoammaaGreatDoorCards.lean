/-
  DERIVED. GIVEN WITH THE SEED: THE CARDS: each row of YtmbkgapknoammaaGreatDoorRows.lean that lists a variable, with what it lists TIED to the program's text (the seventh form; the later family's looks); each row that meets fmt, with fmt's text TOLD by the authors' own Lean function (tested against real Go, not proved from fmt's source: count such statements apart). THE CARD IS WHAT COUNTS. Prove the row's statement (the work); the ties are given (YtmbkgapknoammaaGreatDoorTie.lean); close each card by the builder's one call (the guide's Derived/Test/ToyasCard.lean, 'card_holds'). Laid BY PROGRAM, IN A SANDBOX (cutbox-door.mjs). By AI agents, Wed Nov 11 2026. No macro, syntax, notation, axiom, sorry.
-/
import Derived.Test.YtmbkgapknoammaaGreatDoorRows
import GoSem.ClaimSeven
namespace Go.Proofs.YtmbkgapknoammaaGreatDoor
namespace Rows

/-- THE TIED CARD OF 'sparselaw29.UpdateChanges'. -/
def updateChangesCard : Claim7 := { stood := { row := updateChangesRow, standIns := [], harness := (true, "e6fdc38f7efc358ac69a825eeb7b2a717e1ccfe27d07053b4099f28e6477dd63"), looks := false }, kinds := [], alts := [], laidByText := true, laidKinds := [.data], laidTests := true, laidLooks := .later }
def UpdateChangesCardSaid : Prop := Claim7.holds Tryz.pinned (.plain (OpenSpec.ofChange updateChangesSpec)) updateChangesCard

/-- THE TIED CARD OF 'sparselaw29.UpdateDown'. -/
def updateDownCard : Claim7 := { stood := { row := updateDownRow, standIns := [], harness := (true, "e6fdc38f7efc358ac69a825eeb7b2a717e1ccfe27d07053b4099f28e6477dd63"), looks := false }, kinds := [], alts := [], laidByText := true, laidKinds := [.data], laidTests := true, laidLooks := .later }
def UpdateDownCardSaid : Prop := Claim7.holds Tryz.pinned (.plain (OpenSpec.ofChange updateDownSpec)) updateDownCard

/-- THE TIED CARD OF 'sparselaw29.UpdateSigns'. -/
def updateSignsCard : Claim7 := { stood := { row := updateSignsRow, standIns := [], harness := (true, "e6fdc38f7efc358ac69a825eeb7b2a717e1ccfe27d07053b4099f28e6477dd63"), looks := false }, kinds := [], alts := [], laidByText := true, laidKinds := [.data], laidTests := true, laidLooks := .later }
def UpdateSignsCardSaid : Prop := Claim7.holds Tryz.pinned (.plain (OpenSpec.ofChange updateSignsSpec)) updateSignsCard

/-- THE TIED CARD OF 'sparselaw29.UpdateProduct'. -/
def updateProductCard : Claim7 := { stood := { row := updateProductRow, standIns := [], harness := (true, "e6fdc38f7efc358ac69a825eeb7b2a717e1ccfe27d07053b4099f28e6477dd63"), looks := false }, kinds := [], alts := [], laidByText := true, laidKinds := [.data], laidTests := true, laidLooks := .later }
def UpdateProductCardSaid : Prop := Claim7.holds Tryz.pinned (.plain (OpenSpec.ofChange updateProductSpec)) updateProductCard

/-- THE TIED CARD OF 'sparselaw29.UpdatePath'. -/
def updatePathCard : Claim7 := { stood := { row := updatePathRow, standIns := [], harness := (true, "e6fdc38f7efc358ac69a825eeb7b2a717e1ccfe27d07053b4099f28e6477dd63"), looks := false }, kinds := [], alts := [], laidByText := true, laidKinds := [.data], laidTests := true, laidLooks := .later }
def UpdatePathCardSaid : Prop := Claim7.holds Tryz.pinned (.plain (OpenSpec.ofChange updatePathSpec)) updatePathCard

/-- THE TIED CARD OF 'sparselaw29.UpdateRefuses'. -/
def updateRefusesCard : Claim7 := { stood := { row := updateRefusesRow, standIns := [], harness := (true, "e6fdc38f7efc358ac69a825eeb7b2a717e1ccfe27d07053b4099f28e6477dd63"), looks := false }, kinds := [], alts := [], laidByText := true, laidKinds := [.data], laidTests := true, laidLooks := .later }
def UpdateRefusesCardSaid : Prop := Claim7.holds Tryz.pinned (.plain (OpenSpec.ofChange updateRefusesSpec)) updateRefusesCard

/-- THE TIED CARD OF 'sparselaw29.UpdateUntouched'. -/
def updateUntouchedCard : Claim7 := { stood := { row := updateUntouchedRow, standIns := [], harness := (true, "e6fdc38f7efc358ac69a825eeb7b2a717e1ccfe27d07053b4099f28e6477dd63"), looks := false }, kinds := [], alts := [], laidByText := true, laidKinds := [.data], laidTests := true, laidLooks := .later }
def UpdateUntouchedCardSaid : Prop := Claim7.holds Tryz.pinned (.plain (OpenSpec.ofChange updateUntouchedSpec)) updateUntouchedCard

/-- THE SECOND FORM's CARD OF 'sparselaw29.UpdateChanges'. -/
def updateChangesUptoCard : Claim7 := { stood := { row := updateChangesUptoRow, standIns := [], harness := (true, "e6fdc38f7efc358ac69a825eeb7b2a717e1ccfe27d07053b4099f28e6477dd63"), looks := false }, kinds := [], alts := [], laidByText := true, laidKinds := [.data], laidTests := true, laidLooks := .later }
def UpdateChangesUptoCardSaid : Prop := Claim7.holds Tryz.pinned (.plain (OpenSpec.upto updateChangesSpec)) updateChangesUptoCard

/-- THE SECOND FORM's CARD OF 'sparselaw29.UpdateDown'. -/
def updateDownUptoCard : Claim7 := { stood := { row := updateDownUptoRow, standIns := [], harness := (true, "e6fdc38f7efc358ac69a825eeb7b2a717e1ccfe27d07053b4099f28e6477dd63"), looks := false }, kinds := [], alts := [], laidByText := true, laidKinds := [.data], laidTests := true, laidLooks := .later }
def UpdateDownUptoCardSaid : Prop := Claim7.holds Tryz.pinned (.plain (OpenSpec.upto updateDownSpec)) updateDownUptoCard

/-- THE SECOND FORM's CARD OF 'sparselaw29.UpdateSigns'. -/
def updateSignsUptoCard : Claim7 := { stood := { row := updateSignsUptoRow, standIns := [], harness := (true, "e6fdc38f7efc358ac69a825eeb7b2a717e1ccfe27d07053b4099f28e6477dd63"), looks := false }, kinds := [], alts := [], laidByText := true, laidKinds := [.data], laidTests := true, laidLooks := .later }
def UpdateSignsUptoCardSaid : Prop := Claim7.holds Tryz.pinned (.plain (OpenSpec.upto updateSignsSpec)) updateSignsUptoCard

/-- THE SECOND FORM's CARD OF 'sparselaw29.UpdateProduct'. -/
def updateProductUptoCard : Claim7 := { stood := { row := updateProductUptoRow, standIns := [], harness := (true, "e6fdc38f7efc358ac69a825eeb7b2a717e1ccfe27d07053b4099f28e6477dd63"), looks := false }, kinds := [], alts := [], laidByText := true, laidKinds := [.data], laidTests := true, laidLooks := .later }
def UpdateProductUptoCardSaid : Prop := Claim7.holds Tryz.pinned (.plain (OpenSpec.upto updateProductSpec)) updateProductUptoCard

/-- THE SECOND FORM's CARD OF 'sparselaw29.UpdatePath'. -/
def updatePathUptoCard : Claim7 := { stood := { row := updatePathUptoRow, standIns := [], harness := (true, "e6fdc38f7efc358ac69a825eeb7b2a717e1ccfe27d07053b4099f28e6477dd63"), looks := false }, kinds := [], alts := [], laidByText := true, laidKinds := [.data], laidTests := true, laidLooks := .later }
def UpdatePathUptoCardSaid : Prop := Claim7.holds Tryz.pinned (.plain (OpenSpec.upto updatePathSpec)) updatePathUptoCard

/-- THE SECOND FORM's CARD OF 'sparselaw29.UpdateRefuses'. -/
def updateRefusesUptoCard : Claim7 := { stood := { row := updateRefusesUptoRow, standIns := [], harness := (true, "e6fdc38f7efc358ac69a825eeb7b2a717e1ccfe27d07053b4099f28e6477dd63"), looks := false }, kinds := [], alts := [], laidByText := true, laidKinds := [.data], laidTests := true, laidLooks := .later }
def UpdateRefusesUptoCardSaid : Prop := Claim7.holds Tryz.pinned (.plain (OpenSpec.upto updateRefusesSpec)) updateRefusesUptoCard

/-- THE SECOND FORM's CARD OF 'sparselaw29.UpdateUntouched'. -/
def updateUntouchedUptoCard : Claim7 := { stood := { row := updateUntouchedUptoRow, standIns := [], harness := (true, "e6fdc38f7efc358ac69a825eeb7b2a717e1ccfe27d07053b4099f28e6477dd63"), looks := false }, kinds := [], alts := [], laidByText := true, laidKinds := [.data], laidTests := true, laidLooks := .later }
def UpdateUntouchedUptoCardSaid : Prop := Claim7.holds Tryz.pinned (.plain (OpenSpec.upto updateUntouchedSpec)) updateUntouchedUptoCard
end Rows
end Go.Proofs.YtmbkgapknoammaaGreatDoor
