/-
  DERIVED. GIVEN WITH THE SEED: THE CARDS: each row of YtablcbgeeeboeaaGreatDoorRows.lean that lists a variable, with what it lists TIED to the program's text (the seventh form; the later family's looks); each row that meets fmt, with fmt's text TOLD by the authors' own Lean function (tested against real Go, not proved from fmt's source: count such statements apart). THE CARD IS WHAT COUNTS. Prove the row's statement (the work); the ties are given (YtablcbgeeeboeaaGreatDoorTie.lean); close each card by the builder's one call (the guide's Derived/Test/ToyasCard.lean, 'card_holds'). Laid BY PROGRAM, IN A SANDBOX (cutbox-door.mjs). By AI agents, Wed Nov 11 2026. No macro, syntax, notation, axiom, sorry.
-/
import Derived.Test.YtablcbgeeeboeaaGreatDoorRows
import GoSem.ClaimSeven
namespace Go.Proofs.YtablcbgeeeboeaaGreatDoor
namespace Rows

/-- THE TIED CARD OF 'sparselaw23.DenseEliminates'. -/
def denseEliminatesCard : Claim7 := { stood := { row := denseEliminatesRow, standIns := [], harness := (true, "832a2a463069456d73f3bf9aea4578f9f60114dcf17b40d78150f99a6c86948a"), looks := false }, kinds := [], alts := [], laidByText := true, laidKinds := [.data], laidTests := true, laidLooks := .later }
def DenseEliminatesCardSaid : Prop := Claim7.holds Tryz.pinned (.plain (OpenSpec.ofChange denseEliminatesSpec)) denseEliminatesCard

/-- THE TIED CARD OF 'sparselaw23.DenseWidths'. -/
def denseWidthsCard : Claim7 := { stood := { row := denseWidthsRow, standIns := [], harness := (true, "832a2a463069456d73f3bf9aea4578f9f60114dcf17b40d78150f99a6c86948a"), looks := false }, kinds := [], alts := [], laidByText := true, laidKinds := [.data], laidTests := true, laidLooks := .later }
def DenseWidthsCardSaid : Prop := Claim7.holds Tryz.pinned (.plain (OpenSpec.ofChange denseWidthsSpec)) denseWidthsCard

/-- THE TIED CARD OF 'sparselaw23.DenseStages'. -/
def denseStagesCard : Claim7 := { stood := { row := denseStagesRow, standIns := [], harness := (true, "832a2a463069456d73f3bf9aea4578f9f60114dcf17b40d78150f99a6c86948a"), looks := false }, kinds := [], alts := [], laidByText := true, laidKinds := [.data], laidTests := true, laidLooks := .later }
def DenseStagesCardSaid : Prop := Claim7.holds Tryz.pinned (.plain (OpenSpec.ofChange denseStagesSpec)) denseStagesCard

/-- THE TIED CARD OF 'sparselaw23.DenseContribution'. -/
def denseContributionCard : Claim7 := { stood := { row := denseContributionRow, standIns := [], harness := (true, "832a2a463069456d73f3bf9aea4578f9f60114dcf17b40d78150f99a6c86948a"), looks := false }, kinds := [], alts := [], laidByText := true, laidKinds := [.data], laidTests := true, laidLooks := .later }
def DenseContributionCardSaid : Prop := Claim7.holds Tryz.pinned (.plain (OpenSpec.ofChange denseContributionSpec)) denseContributionCard

/-- THE TIED CARD OF 'sparselaw23.DenseChecks'. -/
def denseChecksCard : Claim7 := { stood := { row := denseChecksRow, standIns := [], harness := (true, "832a2a463069456d73f3bf9aea4578f9f60114dcf17b40d78150f99a6c86948a"), looks := false }, kinds := [], alts := [], laidByText := true, laidKinds := [.data], laidTests := true, laidLooks := .later }
def DenseChecksCardSaid : Prop := Claim7.holds Tryz.pinned (.plain (OpenSpec.ofChange denseChecksSpec)) denseChecksCard

/-- THE TIED CARD OF 'sparselaw23.DenseAssembles'. -/
def denseAssemblesCard : Claim7 := { stood := { row := denseAssemblesRow, standIns := [], harness := (true, "832a2a463069456d73f3bf9aea4578f9f60114dcf17b40d78150f99a6c86948a"), looks := false }, kinds := [], alts := [], laidByText := true, laidKinds := [.data], laidTests := true, laidLooks := .later }
def DenseAssemblesCardSaid : Prop := Claim7.holds Tryz.pinned (.plain (OpenSpec.ofChange denseAssemblesSpec)) denseAssemblesCard

/-- THE TIED CARD OF 'sparselaw23.DenseRefuses'. -/
def denseRefusesCard : Claim7 := { stood := { row := denseRefusesRow, standIns := [], harness := (true, "832a2a463069456d73f3bf9aea4578f9f60114dcf17b40d78150f99a6c86948a"), looks := false }, kinds := [], alts := [], laidByText := true, laidKinds := [.data], laidTests := true, laidLooks := .later }
def DenseRefusesCardSaid : Prop := Claim7.holds Tryz.pinned (.plain (OpenSpec.ofChange denseRefusesSpec)) denseRefusesCard

/-- THE TIED CARD OF 'sparselaw23.DenseMultiplies'. -/
def denseMultipliesCard : Claim7 := { stood := { row := denseMultipliesRow, standIns := [], harness := (true, "832a2a463069456d73f3bf9aea4578f9f60114dcf17b40d78150f99a6c86948a"), looks := false }, kinds := [], alts := [], laidByText := true, laidKinds := [.data], laidTests := true, laidLooks := .later }
def DenseMultipliesCardSaid : Prop := Claim7.holds Tryz.pinned (.plain (OpenSpec.ofChange denseMultipliesSpec)) denseMultipliesCard

/-- THE SECOND FORM's CARD OF 'sparselaw23.DenseEliminates'. -/
def denseEliminatesUptoCard : Claim7 := { stood := { row := denseEliminatesUptoRow, standIns := [], harness := (true, "832a2a463069456d73f3bf9aea4578f9f60114dcf17b40d78150f99a6c86948a"), looks := false }, kinds := [], alts := [], laidByText := true, laidKinds := [.data], laidTests := true, laidLooks := .later }
def DenseEliminatesUptoCardSaid : Prop := Claim7.holds Tryz.pinned (.plain (OpenSpec.upto denseEliminatesSpec)) denseEliminatesUptoCard

/-- THE SECOND FORM's CARD OF 'sparselaw23.DenseWidths'. -/
def denseWidthsUptoCard : Claim7 := { stood := { row := denseWidthsUptoRow, standIns := [], harness := (true, "832a2a463069456d73f3bf9aea4578f9f60114dcf17b40d78150f99a6c86948a"), looks := false }, kinds := [], alts := [], laidByText := true, laidKinds := [.data], laidTests := true, laidLooks := .later }
def DenseWidthsUptoCardSaid : Prop := Claim7.holds Tryz.pinned (.plain (OpenSpec.upto denseWidthsSpec)) denseWidthsUptoCard

/-- THE SECOND FORM's CARD OF 'sparselaw23.DenseStages'. -/
def denseStagesUptoCard : Claim7 := { stood := { row := denseStagesUptoRow, standIns := [], harness := (true, "832a2a463069456d73f3bf9aea4578f9f60114dcf17b40d78150f99a6c86948a"), looks := false }, kinds := [], alts := [], laidByText := true, laidKinds := [.data], laidTests := true, laidLooks := .later }
def DenseStagesUptoCardSaid : Prop := Claim7.holds Tryz.pinned (.plain (OpenSpec.upto denseStagesSpec)) denseStagesUptoCard

/-- THE SECOND FORM's CARD OF 'sparselaw23.DenseContribution'. -/
def denseContributionUptoCard : Claim7 := { stood := { row := denseContributionUptoRow, standIns := [], harness := (true, "832a2a463069456d73f3bf9aea4578f9f60114dcf17b40d78150f99a6c86948a"), looks := false }, kinds := [], alts := [], laidByText := true, laidKinds := [.data], laidTests := true, laidLooks := .later }
def DenseContributionUptoCardSaid : Prop := Claim7.holds Tryz.pinned (.plain (OpenSpec.upto denseContributionSpec)) denseContributionUptoCard

/-- THE SECOND FORM's CARD OF 'sparselaw23.DenseChecks'. -/
def denseChecksUptoCard : Claim7 := { stood := { row := denseChecksUptoRow, standIns := [], harness := (true, "832a2a463069456d73f3bf9aea4578f9f60114dcf17b40d78150f99a6c86948a"), looks := false }, kinds := [], alts := [], laidByText := true, laidKinds := [.data], laidTests := true, laidLooks := .later }
def DenseChecksUptoCardSaid : Prop := Claim7.holds Tryz.pinned (.plain (OpenSpec.upto denseChecksSpec)) denseChecksUptoCard

/-- THE SECOND FORM's CARD OF 'sparselaw23.DenseAssembles'. -/
def denseAssemblesUptoCard : Claim7 := { stood := { row := denseAssemblesUptoRow, standIns := [], harness := (true, "832a2a463069456d73f3bf9aea4578f9f60114dcf17b40d78150f99a6c86948a"), looks := false }, kinds := [], alts := [], laidByText := true, laidKinds := [.data], laidTests := true, laidLooks := .later }
def DenseAssemblesUptoCardSaid : Prop := Claim7.holds Tryz.pinned (.plain (OpenSpec.upto denseAssemblesSpec)) denseAssemblesUptoCard

/-- THE SECOND FORM's CARD OF 'sparselaw23.DenseRefuses'. -/
def denseRefusesUptoCard : Claim7 := { stood := { row := denseRefusesUptoRow, standIns := [], harness := (true, "832a2a463069456d73f3bf9aea4578f9f60114dcf17b40d78150f99a6c86948a"), looks := false }, kinds := [], alts := [], laidByText := true, laidKinds := [.data], laidTests := true, laidLooks := .later }
def DenseRefusesUptoCardSaid : Prop := Claim7.holds Tryz.pinned (.plain (OpenSpec.upto denseRefusesSpec)) denseRefusesUptoCard

/-- THE SECOND FORM's CARD OF 'sparselaw23.DenseMultiplies'. -/
def denseMultipliesUptoCard : Claim7 := { stood := { row := denseMultipliesUptoRow, standIns := [], harness := (true, "832a2a463069456d73f3bf9aea4578f9f60114dcf17b40d78150f99a6c86948a"), looks := false }, kinds := [], alts := [], laidByText := true, laidKinds := [.data], laidTests := true, laidLooks := .later }
def DenseMultipliesUptoCardSaid : Prop := Claim7.holds Tryz.pinned (.plain (OpenSpec.upto denseMultipliesSpec)) denseMultipliesUptoCard
end Rows
end Go.Proofs.YtablcbgeeeboeaaGreatDoor
