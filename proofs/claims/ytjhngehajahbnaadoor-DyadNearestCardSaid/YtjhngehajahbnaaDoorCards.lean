/-
  DERIVED. GIVEN WITH THE SEED: THE CARDS: each row of YtjhngehajahbnaaDoorRows.lean that lists a variable, with what it lists TIED to the program's text (the seventh form; the later family's looks); each row that meets fmt, with fmt's text TOLD by the authors' own Lean function (tested against real Go, not proved from fmt's source: count such statements apart). THE CARD IS WHAT COUNTS. Prove the row's statement (the work); the ties are given (YtjhngehajahbnaaDoorTie.lean); close each card by the builder's one call (the guide's Derived/Test/ToyasCard.lean, 'card_holds'). Laid BY PROGRAM, IN A SANDBOX (cutbox-door.mjs). By AI agents, Wed Nov 11 2026. No macro, syntax, notation, axiom, sorry.
-/
import Derived.Test.YtjhngehajahbnaaDoorRows
import GoSem.ClaimSeven
namespace Go.Proofs.YtjhngehajahbnaaDoor
namespace Rows

/-- THE TIED CARD OF 'sparselaw02.DyadLimits'. -/
def dyadLimitsCard : Claim7 := { stood := { row := dyadLimitsRow, standIns := [], harness := (true, "3bd201ee3c88e9f98e4c5634fb50a7bd5ecafe8f79cbb2abec7afe794282df57"), looks := false }, kinds := [], alts := [], laidByText := true, laidKinds := [.data], laidTests := true, laidLooks := .later }
def DyadLimitsCardSaid : Prop := Claim7.holds Tryd.pinned (.plain (OpenSpec.ofChange dyadLimitsSpec)) dyadLimitsCard

/-- THE TIED CARD OF 'sparselaw02.DyadSums'. -/
def dyadSumsCard : Claim7 := { stood := { row := dyadSumsRow, standIns := [], harness := (true, "3bd201ee3c88e9f98e4c5634fb50a7bd5ecafe8f79cbb2abec7afe794282df57"), looks := false }, kinds := [], alts := [], laidByText := true, laidKinds := [.data], laidTests := true, laidLooks := .later }
def DyadSumsCardSaid : Prop := Claim7.holds Tryd.pinned (.plain (OpenSpec.ofChange dyadSumsSpec)) dyadSumsCard

/-- THE TIED CARD OF 'sparselaw02.DyadQuotient'. -/
def dyadQuotientCard : Claim7 := { stood := { row := dyadQuotientRow, standIns := [], harness := (true, "3bd201ee3c88e9f98e4c5634fb50a7bd5ecafe8f79cbb2abec7afe794282df57"), looks := false }, kinds := [], alts := [], laidByText := true, laidKinds := [.data], laidTests := true, laidLooks := .later }
def DyadQuotientCardSaid : Prop := Claim7.holds Tryd.pinned (.plain (OpenSpec.ofChange dyadQuotientSpec)) dyadQuotientCard

/-- THE TIED CARD OF 'sparselaw02.DyadNearest'. -/
def dyadNearestCard : Claim7 := { stood := { row := dyadNearestRow, standIns := [], harness := (true, "3bd201ee3c88e9f98e4c5634fb50a7bd5ecafe8f79cbb2abec7afe794282df57"), looks := false }, kinds := [], alts := [], laidByText := true, laidKinds := [.data], laidTests := true, laidLooks := .later }
def DyadNearestCardSaid : Prop := Claim7.holds Tryd.pinned (.plain (OpenSpec.ofChange dyadNearestSpec)) dyadNearestCard

/-- THE TIED CARD OF 'sparselaw02.DyadRing'. -/
def dyadRingCard : Claim7 := { stood := { row := dyadRingRow, standIns := [], harness := (true, "3bd201ee3c88e9f98e4c5634fb50a7bd5ecafe8f79cbb2abec7afe794282df57"), looks := false }, kinds := [], alts := [], laidByText := true, laidKinds := [.data], laidTests := true, laidLooks := .later }
def DyadRingCardSaid : Prop := Claim7.holds Tryd.pinned (.plain (OpenSpec.ofChange dyadRingSpec)) dyadRingCard

/-- THE TIED CARD OF 'sparselaw02.DyadScales'. -/
def dyadScalesCard : Claim7 := { stood := { row := dyadScalesRow, standIns := [], harness := (true, "3bd201ee3c88e9f98e4c5634fb50a7bd5ecafe8f79cbb2abec7afe794282df57"), looks := false }, kinds := [], alts := [], laidByText := true, laidKinds := [.data], laidTests := true, laidLooks := .later }
def DyadScalesCardSaid : Prop := Claim7.holds Tryd.pinned (.plain (OpenSpec.ofChange dyadScalesSpec)) dyadScalesCard

/-- THE TIED CARD OF 'sparselaw02.DyadRoot'. -/
def dyadRootCard : Claim7 := { stood := { row := dyadRootRow, standIns := [], harness := (true, "3bd201ee3c88e9f98e4c5634fb50a7bd5ecafe8f79cbb2abec7afe794282df57"), looks := false }, kinds := [], alts := [], laidByText := true, laidKinds := [.data], laidTests := true, laidLooks := .later }
def DyadRootCardSaid : Prop := Claim7.holds Tryd.pinned (.plain (OpenSpec.ofChange dyadRootSpec)) dyadRootCard

/-- THE SECOND FORM's CARD OF 'sparselaw02.DyadLimits'. -/
def dyadLimitsUptoCard : Claim7 := { stood := { row := dyadLimitsUptoRow, standIns := [], harness := (true, "3bd201ee3c88e9f98e4c5634fb50a7bd5ecafe8f79cbb2abec7afe794282df57"), looks := false }, kinds := [], alts := [], laidByText := true, laidKinds := [.data], laidTests := true, laidLooks := .later }
def DyadLimitsUptoCardSaid : Prop := Claim7.holds Tryd.pinned (.plain (OpenSpec.upto dyadLimitsSpec)) dyadLimitsUptoCard

/-- THE SECOND FORM's CARD OF 'sparselaw02.DyadSums'. -/
def dyadSumsUptoCard : Claim7 := { stood := { row := dyadSumsUptoRow, standIns := [], harness := (true, "3bd201ee3c88e9f98e4c5634fb50a7bd5ecafe8f79cbb2abec7afe794282df57"), looks := false }, kinds := [], alts := [], laidByText := true, laidKinds := [.data], laidTests := true, laidLooks := .later }
def DyadSumsUptoCardSaid : Prop := Claim7.holds Tryd.pinned (.plain (OpenSpec.upto dyadSumsSpec)) dyadSumsUptoCard

/-- THE SECOND FORM's CARD OF 'sparselaw02.DyadQuotient'. -/
def dyadQuotientUptoCard : Claim7 := { stood := { row := dyadQuotientUptoRow, standIns := [], harness := (true, "3bd201ee3c88e9f98e4c5634fb50a7bd5ecafe8f79cbb2abec7afe794282df57"), looks := false }, kinds := [], alts := [], laidByText := true, laidKinds := [.data], laidTests := true, laidLooks := .later }
def DyadQuotientUptoCardSaid : Prop := Claim7.holds Tryd.pinned (.plain (OpenSpec.upto dyadQuotientSpec)) dyadQuotientUptoCard

/-- THE SECOND FORM's CARD OF 'sparselaw02.DyadNearest'. -/
def dyadNearestUptoCard : Claim7 := { stood := { row := dyadNearestUptoRow, standIns := [], harness := (true, "3bd201ee3c88e9f98e4c5634fb50a7bd5ecafe8f79cbb2abec7afe794282df57"), looks := false }, kinds := [], alts := [], laidByText := true, laidKinds := [.data], laidTests := true, laidLooks := .later }
def DyadNearestUptoCardSaid : Prop := Claim7.holds Tryd.pinned (.plain (OpenSpec.upto dyadNearestSpec)) dyadNearestUptoCard

/-- THE SECOND FORM's CARD OF 'sparselaw02.DyadRing'. -/
def dyadRingUptoCard : Claim7 := { stood := { row := dyadRingUptoRow, standIns := [], harness := (true, "3bd201ee3c88e9f98e4c5634fb50a7bd5ecafe8f79cbb2abec7afe794282df57"), looks := false }, kinds := [], alts := [], laidByText := true, laidKinds := [.data], laidTests := true, laidLooks := .later }
def DyadRingUptoCardSaid : Prop := Claim7.holds Tryd.pinned (.plain (OpenSpec.upto dyadRingSpec)) dyadRingUptoCard

/-- THE SECOND FORM's CARD OF 'sparselaw02.DyadScales'. -/
def dyadScalesUptoCard : Claim7 := { stood := { row := dyadScalesUptoRow, standIns := [], harness := (true, "3bd201ee3c88e9f98e4c5634fb50a7bd5ecafe8f79cbb2abec7afe794282df57"), looks := false }, kinds := [], alts := [], laidByText := true, laidKinds := [.data], laidTests := true, laidLooks := .later }
def DyadScalesUptoCardSaid : Prop := Claim7.holds Tryd.pinned (.plain (OpenSpec.upto dyadScalesSpec)) dyadScalesUptoCard

/-- THE SECOND FORM's CARD OF 'sparselaw02.DyadRoot'. -/
def dyadRootUptoCard : Claim7 := { stood := { row := dyadRootUptoRow, standIns := [], harness := (true, "3bd201ee3c88e9f98e4c5634fb50a7bd5ecafe8f79cbb2abec7afe794282df57"), looks := false }, kinds := [], alts := [], laidByText := true, laidKinds := [.data], laidTests := true, laidLooks := .later }
def DyadRootUptoCardSaid : Prop := Claim7.holds Tryd.pinned (.plain (OpenSpec.upto dyadRootSpec)) dyadRootUptoCard
end Rows
end Go.Proofs.YtjhngehajahbnaaDoor
