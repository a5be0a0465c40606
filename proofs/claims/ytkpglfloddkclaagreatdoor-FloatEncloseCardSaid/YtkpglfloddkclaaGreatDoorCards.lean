/-
  DERIVED. GIVEN WITH THE SEED: THE CARDS: each row of YtkpglfloddkclaaGreatDoorRows.lean that lists a variable, with what it lists TIED to the program's text (the seventh form; the later family's looks); each row that meets fmt, with fmt's text TOLD by the authors' own Lean function (tested against real Go, not proved from fmt's source: count such statements apart). THE CARD IS WHAT COUNTS. Prove the row's statement (the work); the ties are given (YtkpglfloddkclaaGreatDoorTie.lean); close each card by the builder's one call (the guide's Derived/Test/ToyasCard.lean, 'card_holds'). Laid BY PROGRAM, IN A SANDBOX (cutbox-door.mjs). By AI agents, Wed Nov 11 2026. No macro, syntax, notation, axiom, sorry.
-/
import Derived.Test.YtkpglfloddkclaaGreatDoorRows
import GoSem.ClaimSeven
namespace Go.Proofs.YtkpglfloddkclaaGreatDoor
namespace Rows

/-- THE TIED CARD OF 'sparselaw03.FloatQuotients'. -/
def floatQuotientsCard : Claim7 := { stood := { row := floatQuotientsRow, standIns := [], harness := (true, "fad67c71c74e8c218e4d433509b6f6390ada5f690a4b3d6e3b61d0bd8943af7f"), looks := false }, kinds := [], alts := [], laidByText := true, laidKinds := [.data], laidTests := true, laidLooks := .later }
def FloatQuotientsCardSaid : Prop := Claim7.holds Tryz.pinned (.plain (OpenSpec.ofChange floatQuotientsSpec)) floatQuotientsCard

/-- THE TIED CARD OF 'sparselaw03.FloatEnclose'. -/
def floatEncloseCard : Claim7 := { stood := { row := floatEncloseRow, standIns := [], harness := (true, "fad67c71c74e8c218e4d433509b6f6390ada5f690a4b3d6e3b61d0bd8943af7f"), looks := false }, kinds := [], alts := [], laidByText := true, laidKinds := [.data], laidTests := true, laidLooks := .later }
def FloatEncloseCardSaid : Prop := Claim7.holds Tryz.pinned (.plain (OpenSpec.ofChange floatEncloseSpec)) floatEncloseCard

/-- THE TIED CARD OF 'sparselaw03.FloatForms'. -/
def floatFormsCard : Claim7 := { stood := { row := floatFormsRow, standIns := [], harness := (true, "fad67c71c74e8c218e4d433509b6f6390ada5f690a4b3d6e3b61d0bd8943af7f"), looks := false }, kinds := [], alts := [], laidByText := true, laidKinds := [.data], laidTests := true, laidLooks := .later }
def FloatFormsCardSaid : Prop := Claim7.holds Tryz.pinned (.plain (OpenSpec.ofChange floatFormsSpec)) floatFormsCard

/-- THE TIED CARD OF 'sparselaw03.FloatExact'. -/
def floatExactCard : Claim7 := { stood := { row := floatExactRow, standIns := [], harness := (true, "fad67c71c74e8c218e4d433509b6f6390ada5f690a4b3d6e3b61d0bd8943af7f"), looks := false }, kinds := [], alts := [], laidByText := true, laidKinds := [.data], laidTests := true, laidLooks := .later }
def FloatExactCardSaid : Prop := Claim7.holds Tryz.pinned (.plain (OpenSpec.ofChange floatExactSpec)) floatExactCard

/-- THE SECOND FORM's CARD OF 'sparselaw03.FloatQuotients'. -/
def floatQuotientsUptoCard : Claim7 := { stood := { row := floatQuotientsUptoRow, standIns := [], harness := (true, "fad67c71c74e8c218e4d433509b6f6390ada5f690a4b3d6e3b61d0bd8943af7f"), looks := false }, kinds := [], alts := [], laidByText := true, laidKinds := [.data], laidTests := true, laidLooks := .later }
def FloatQuotientsUptoCardSaid : Prop := Claim7.holds Tryz.pinned (.plain (OpenSpec.upto floatQuotientsSpec)) floatQuotientsUptoCard

/-- THE SECOND FORM's CARD OF 'sparselaw03.FloatEnclose'. -/
def floatEncloseUptoCard : Claim7 := { stood := { row := floatEncloseUptoRow, standIns := [], harness := (true, "fad67c71c74e8c218e4d433509b6f6390ada5f690a4b3d6e3b61d0bd8943af7f"), looks := false }, kinds := [], alts := [], laidByText := true, laidKinds := [.data], laidTests := true, laidLooks := .later }
def FloatEncloseUptoCardSaid : Prop := Claim7.holds Tryz.pinned (.plain (OpenSpec.upto floatEncloseSpec)) floatEncloseUptoCard

/-- THE SECOND FORM's CARD OF 'sparselaw03.FloatForms'. -/
def floatFormsUptoCard : Claim7 := { stood := { row := floatFormsUptoRow, standIns := [], harness := (true, "fad67c71c74e8c218e4d433509b6f6390ada5f690a4b3d6e3b61d0bd8943af7f"), looks := false }, kinds := [], alts := [], laidByText := true, laidKinds := [.data], laidTests := true, laidLooks := .later }
def FloatFormsUptoCardSaid : Prop := Claim7.holds Tryz.pinned (.plain (OpenSpec.upto floatFormsSpec)) floatFormsUptoCard

/-- THE SECOND FORM's CARD OF 'sparselaw03.FloatExact'. -/
def floatExactUptoCard : Claim7 := { stood := { row := floatExactUptoRow, standIns := [], harness := (true, "fad67c71c74e8c218e4d433509b6f6390ada5f690a4b3d6e3b61d0bd8943af7f"), looks := false }, kinds := [], alts := [], laidByText := true, laidKinds := [.data], laidTests := true, laidLooks := .later }
def FloatExactUptoCardSaid : Prop := Claim7.holds Tryz.pinned (.plain (OpenSpec.upto floatExactSpec)) floatExactUptoCard
end Rows
end Go.Proofs.YtkpglfloddkclaaGreatDoor
