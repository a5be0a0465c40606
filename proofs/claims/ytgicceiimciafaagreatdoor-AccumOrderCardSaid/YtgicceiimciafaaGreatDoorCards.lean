/-
  DERIVED. GIVEN WITH THE SEED: THE CARDS: each row of YtgicceiimciafaaGreatDoorRows.lean that lists a variable, with what it lists TIED to the program's text (the seventh form; the later family's looks); each row that meets fmt, with fmt's text TOLD by the authors' own Lean function (tested against real Go, not proved from fmt's source: count such statements apart). THE CARD IS WHAT COUNTS. Prove the row's statement (the work); the ties are given (YtgicceiimciafaaGreatDoorTie.lean); close each card by the builder's one call (the guide's Derived/Test/ToyasCard.lean, 'card_holds'). Laid BY PROGRAM, IN A SANDBOX (cutbox-door.mjs). By AI agents, Wed Nov 11 2026. No macro, syntax, notation, axiom, sorry.
-/
import Derived.Test.YtgicceiimciafaaGreatDoorRows
import GoSem.ClaimSeven
namespace Go.Proofs.YtgicceiimciafaaGreatDoor
namespace Rows

/-- THE TIED CARD OF 'sparselaw06.AccumOrder'. -/
def accumOrderCard : Claim7 := { stood := { row := accumOrderRow, standIns := [], harness := (true, "e7e089d1f407a01b2d3ba229f312bdb628a522de22c38aaa1a3efdd59ccbc579"), looks := false }, kinds := [], alts := [], laidByText := true, laidKinds := [.data], laidTests := true, laidLooks := .later }
def AccumOrderCardSaid : Prop := Claim7.holds Tryz.pinned (.plain (OpenSpec.ofChange accumOrderSpec)) accumOrderCard

/-- THE TIED CARD OF 'sparselaw05.IntervalExact'. -/
def intervalExactCard : Claim7 := { stood := { row := intervalExactRow, standIns := [], harness := (true, "e7e089d1f407a01b2d3ba229f312bdb628a522de22c38aaa1a3efdd59ccbc579"), looks := false }, kinds := [], alts := [], laidByText := true, laidKinds := [.data], laidTests := true, laidLooks := .later }
def IntervalExactCardSaid : Prop := Claim7.holds Tryz.pinned (.plain (OpenSpec.ofChange intervalExactSpec)) intervalExactCard

/-- THE SECOND FORM's CARD OF 'sparselaw06.AccumOrder'. -/
def accumOrderUptoCard : Claim7 := { stood := { row := accumOrderUptoRow, standIns := [], harness := (true, "e7e089d1f407a01b2d3ba229f312bdb628a522de22c38aaa1a3efdd59ccbc579"), looks := false }, kinds := [], alts := [], laidByText := true, laidKinds := [.data], laidTests := true, laidLooks := .later }
def AccumOrderUptoCardSaid : Prop := Claim7.holds Tryz.pinned (.plain (OpenSpec.upto accumOrderSpec)) accumOrderUptoCard

/-- THE SECOND FORM's CARD OF 'sparselaw05.IntervalExact'. -/
def intervalExactUptoCard : Claim7 := { stood := { row := intervalExactUptoRow, standIns := [], harness := (true, "e7e089d1f407a01b2d3ba229f312bdb628a522de22c38aaa1a3efdd59ccbc579"), looks := false }, kinds := [], alts := [], laidByText := true, laidKinds := [.data], laidTests := true, laidLooks := .later }
def IntervalExactUptoCardSaid : Prop := Claim7.holds Tryz.pinned (.plain (OpenSpec.upto intervalExactSpec)) intervalExactUptoCard
end Rows
end Go.Proofs.YtgicceiimciafaaGreatDoor
