/-
  DERIVED. GIVEN WITH THE SEED: THE CARDS: each row of YtkpglfloddkclaaDoorRows.lean that lists a variable, with what it lists TIED to the program's text (the seventh form; the later family's looks); each row that meets fmt, with fmt's text TOLD by the authors' own Lean function (tested against real Go, not proved from fmt's source: count such statements apart). THE CARD IS WHAT COUNTS. Prove the row's statement (the work); the ties are given (YtkpglfloddkclaaDoorTie.lean); close each card by the builder's one call (the guide's Derived/Test/ToyasCard.lean, 'card_holds'). Laid BY PROGRAM, IN A SANDBOX (cutbox-door.mjs). By AI agents, Wed Nov 11 2026. No macro, syntax, notation, axiom, sorry.
-/
import Derived.Test.YtkpglfloddkclaaDoorRows
import GoSem.ClaimSeven
namespace Go.Proofs.YtkpglfloddkclaaDoor
namespace Rows

/-- THE TIED CARD OF 'sparselaw03.FloatMirrors'. -/
def floatMirrorsCard : Claim7 := { stood := { row := floatMirrorsRow, standIns := [], harness := (true, "2b09152e01f459fcabb0628300f94130f86ac329fda1ee374da6decf50b52b21"), looks := false }, kinds := [], alts := [], laidByText := true, laidKinds := [.data], laidTests := true, laidLooks := .later }
def FloatMirrorsCardSaid : Prop := Claim7.holds Tryd.pinned (.plain (OpenSpec.ofChange floatMirrorsSpec)) floatMirrorsCard

/-- THE TIED CARD OF 'sparselaw03.FloatCommutes'. -/
def floatCommutesCard : Claim7 := { stood := { row := floatCommutesRow, standIns := [], harness := (true, "2b09152e01f459fcabb0628300f94130f86ac329fda1ee374da6decf50b52b21"), looks := false }, kinds := [], alts := [], laidByText := true, laidKinds := [.data], laidTests := true, laidLooks := .later }
def FloatCommutesCardSaid : Prop := Claim7.holds Tryd.pinned (.plain (OpenSpec.ofChange floatCommutesSpec)) floatCommutesCard

/-- THE TIED CARD OF 'sparselaw03.FloatMonotone'. -/
def floatMonotoneCard : Claim7 := { stood := { row := floatMonotoneRow, standIns := [], harness := (true, "2b09152e01f459fcabb0628300f94130f86ac329fda1ee374da6decf50b52b21"), looks := false }, kinds := [], alts := [], laidByText := true, laidKinds := [.data], laidTests := true, laidLooks := .later }
def FloatMonotoneCardSaid : Prop := Claim7.holds Tryd.pinned (.plain (OpenSpec.ofChange floatMonotoneSpec)) floatMonotoneCard

/-- THE TIED CARD OF 'sparselaw03.FloatSterbenz'. -/
def floatSterbenzCard : Claim7 := { stood := { row := floatSterbenzRow, standIns := [], harness := (true, "2b09152e01f459fcabb0628300f94130f86ac329fda1ee374da6decf50b52b21"), looks := false }, kinds := [], alts := [], laidByText := true, laidKinds := [.data], laidTests := true, laidLooks := .later }
def FloatSterbenzCardSaid : Prop := Claim7.holds Tryd.pinned (.plain (OpenSpec.ofChange floatSterbenzSpec)) floatSterbenzCard

/-- THE TIED CARD OF 'sparselaw03.FloatNeighbours'. -/
def floatNeighboursCard : Claim7 := { stood := { row := floatNeighboursRow, standIns := [], harness := (true, "2b09152e01f459fcabb0628300f94130f86ac329fda1ee374da6decf50b52b21"), looks := false }, kinds := [], alts := [], laidByText := true, laidKinds := [.data], laidTests := true, laidLooks := .later }
def FloatNeighboursCardSaid : Prop := Claim7.holds Tryd.pinned (.plain (OpenSpec.ofChange floatNeighboursSpec)) floatNeighboursCard

/-- THE TIED CARD OF 'sparselaw03.FloatHalves'. -/
def floatHalvesCard : Claim7 := { stood := { row := floatHalvesRow, standIns := [], harness := (true, "2b09152e01f459fcabb0628300f94130f86ac329fda1ee374da6decf50b52b21"), looks := false }, kinds := [], alts := [], laidByText := true, laidKinds := [.data], laidTests := true, laidLooks := .later }
def FloatHalvesCardSaid : Prop := Claim7.holds Tryd.pinned (.plain (OpenSpec.ofChange floatHalvesSpec)) floatHalvesCard

/-- THE TIED CARD OF 'sparselaw03.FloatSpecial'. -/
def floatSpecialCard : Claim7 := { stood := { row := floatSpecialRow, standIns := [], harness := (true, "2b09152e01f459fcabb0628300f94130f86ac329fda1ee374da6decf50b52b21"), looks := false }, kinds := [], alts := [], laidByText := true, laidKinds := [.data], laidTests := true, laidLooks := .later }
def FloatSpecialCardSaid : Prop := Claim7.holds Tryd.pinned (.plain (OpenSpec.ofChange floatSpecialSpec)) floatSpecialCard

/-- THE SECOND FORM's CARD OF 'sparselaw03.FloatMirrors'. -/
def floatMirrorsUptoCard : Claim7 := { stood := { row := floatMirrorsUptoRow, standIns := [], harness := (true, "2b09152e01f459fcabb0628300f94130f86ac329fda1ee374da6decf50b52b21"), looks := false }, kinds := [], alts := [], laidByText := true, laidKinds := [.data], laidTests := true, laidLooks := .later }
def FloatMirrorsUptoCardSaid : Prop := Claim7.holds Tryd.pinned (.plain (OpenSpec.upto floatMirrorsSpec)) floatMirrorsUptoCard

/-- THE SECOND FORM's CARD OF 'sparselaw03.FloatCommutes'. -/
def floatCommutesUptoCard : Claim7 := { stood := { row := floatCommutesUptoRow, standIns := [], harness := (true, "2b09152e01f459fcabb0628300f94130f86ac329fda1ee374da6decf50b52b21"), looks := false }, kinds := [], alts := [], laidByText := true, laidKinds := [.data], laidTests := true, laidLooks := .later }
def FloatCommutesUptoCardSaid : Prop := Claim7.holds Tryd.pinned (.plain (OpenSpec.upto floatCommutesSpec)) floatCommutesUptoCard

/-- THE SECOND FORM's CARD OF 'sparselaw03.FloatMonotone'. -/
def floatMonotoneUptoCard : Claim7 := { stood := { row := floatMonotoneUptoRow, standIns := [], harness := (true, "2b09152e01f459fcabb0628300f94130f86ac329fda1ee374da6decf50b52b21"), looks := false }, kinds := [], alts := [], laidByText := true, laidKinds := [.data], laidTests := true, laidLooks := .later }
def FloatMonotoneUptoCardSaid : Prop := Claim7.holds Tryd.pinned (.plain (OpenSpec.upto floatMonotoneSpec)) floatMonotoneUptoCard

/-- THE SECOND FORM's CARD OF 'sparselaw03.FloatSterbenz'. -/
def floatSterbenzUptoCard : Claim7 := { stood := { row := floatSterbenzUptoRow, standIns := [], harness := (true, "2b09152e01f459fcabb0628300f94130f86ac329fda1ee374da6decf50b52b21"), looks := false }, kinds := [], alts := [], laidByText := true, laidKinds := [.data], laidTests := true, laidLooks := .later }
def FloatSterbenzUptoCardSaid : Prop := Claim7.holds Tryd.pinned (.plain (OpenSpec.upto floatSterbenzSpec)) floatSterbenzUptoCard

/-- THE SECOND FORM's CARD OF 'sparselaw03.FloatNeighbours'. -/
def floatNeighboursUptoCard : Claim7 := { stood := { row := floatNeighboursUptoRow, standIns := [], harness := (true, "2b09152e01f459fcabb0628300f94130f86ac329fda1ee374da6decf50b52b21"), looks := false }, kinds := [], alts := [], laidByText := true, laidKinds := [.data], laidTests := true, laidLooks := .later }
def FloatNeighboursUptoCardSaid : Prop := Claim7.holds Tryd.pinned (.plain (OpenSpec.upto floatNeighboursSpec)) floatNeighboursUptoCard

/-- THE SECOND FORM's CARD OF 'sparselaw03.FloatHalves'. -/
def floatHalvesUptoCard : Claim7 := { stood := { row := floatHalvesUptoRow, standIns := [], harness := (true, "2b09152e01f459fcabb0628300f94130f86ac329fda1ee374da6decf50b52b21"), looks := false }, kinds := [], alts := [], laidByText := true, laidKinds := [.data], laidTests := true, laidLooks := .later }
def FloatHalvesUptoCardSaid : Prop := Claim7.holds Tryd.pinned (.plain (OpenSpec.upto floatHalvesSpec)) floatHalvesUptoCard

/-- THE SECOND FORM's CARD OF 'sparselaw03.FloatSpecial'. -/
def floatSpecialUptoCard : Claim7 := { stood := { row := floatSpecialUptoRow, standIns := [], harness := (true, "2b09152e01f459fcabb0628300f94130f86ac329fda1ee374da6decf50b52b21"), looks := false }, kinds := [], alts := [], laidByText := true, laidKinds := [.data], laidTests := true, laidLooks := .later }
def FloatSpecialUptoCardSaid : Prop := Claim7.holds Tryd.pinned (.plain (OpenSpec.upto floatSpecialSpec)) floatSpecialUptoCard
end Rows
end Go.Proofs.YtkpglfloddkclaaDoor
