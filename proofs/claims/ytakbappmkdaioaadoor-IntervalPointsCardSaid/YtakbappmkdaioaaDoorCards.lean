/-
  DERIVED. GIVEN WITH THE SEED: THE CARDS: each row of YtakbappmkdaioaaDoorRows.lean that lists a variable, with what it lists TIED to the program's text (the seventh form; the later family's looks); each row that meets fmt, with fmt's text TOLD by the authors' own Lean function (tested against real Go, not proved from fmt's source: count such statements apart). THE CARD IS WHAT COUNTS. Prove the row's statement (the work); the ties are given (YtakbappmkdaioaaDoorTie.lean); close each card by the builder's one call (the guide's Derived/Test/ToyasCard.lean, 'card_holds'). Laid BY PROGRAM, IN A SANDBOX (cutbox-door.mjs). By AI agents, Wed Nov 11 2026. No macro, syntax, notation, axiom, sorry.
-/
import Derived.Test.YtakbappmkdaioaaDoorRows
import GoSem.ClaimSeven
namespace Go.Proofs.YtakbappmkdaioaaDoor
namespace Rows

/-- THE TIED CARD OF 'sparselaw05.IntervalPoints'. -/
def intervalPointsCard : Claim7 := { stood := { row := intervalPointsRow, standIns := [], harness := (true, "63752d019f32c70fd1a0c39632b937ad7903d3bf29115f11659214b5abf5b53a"), looks := false }, kinds := [], alts := [], laidByText := true, laidKinds := [.data], laidTests := true, laidLooks := .later }
def IntervalPointsCardSaid : Prop := Claim7.holds Tryd.pinned (.plain (OpenSpec.ofChange intervalPointsSpec)) intervalPointsCard

/-- THE SECOND FORM's CARD OF 'sparselaw05.IntervalPoints'. -/
def intervalPointsUptoCard : Claim7 := { stood := { row := intervalPointsUptoRow, standIns := [], harness := (true, "63752d019f32c70fd1a0c39632b937ad7903d3bf29115f11659214b5abf5b53a"), looks := false }, kinds := [], alts := [], laidByText := true, laidKinds := [.data], laidTests := true, laidLooks := .later }
def IntervalPointsUptoCardSaid : Prop := Claim7.holds Tryd.pinned (.plain (OpenSpec.upto intervalPointsSpec)) intervalPointsUptoCard
end Rows
end Go.Proofs.YtakbappmkdaioaaDoor
