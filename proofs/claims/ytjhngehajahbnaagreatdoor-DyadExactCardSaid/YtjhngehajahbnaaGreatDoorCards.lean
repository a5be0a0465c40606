/-
  DERIVED. GIVEN WITH THE SEED: THE CARDS: each row of YtjhngehajahbnaaGreatDoorRows.lean that lists a variable, with what it lists TIED to the program's text (the seventh form; the later family's looks); each row that meets fmt, with fmt's text TOLD by the authors' own Lean function (tested against real Go, not proved from fmt's source: count such statements apart). THE CARD IS WHAT COUNTS. Prove the row's statement (the work); the ties are given (YtjhngehajahbnaaGreatDoorTie.lean); close each card by the builder's one call (the guide's Derived/Test/ToyasCard.lean, 'card_holds'). Laid BY PROGRAM, IN A SANDBOX (cutbox-door.mjs). By AI agents, Wed Nov 11 2026. No macro, syntax, notation, axiom, sorry.
-/
import Derived.Test.YtjhngehajahbnaaGreatDoorRows
import GoSem.ClaimSeven
namespace Go.Proofs.YtjhngehajahbnaaGreatDoor
namespace Rows

/-- THE TIED CARD OF 'sparselaw02.DyadRounds'. -/
def dyadRoundsCard : Claim7 := { stood := { row := dyadRoundsRow, standIns := [], harness := (true, "2abaa3be5a0f5ce6bb982382205dfa4c81759ceacbc9ce89f19b3b8a82221f48"), looks := false }, kinds := [], alts := [], laidByText := true, laidKinds := [.data], laidTests := true, laidLooks := .later }
def DyadRoundsCardSaid : Prop := Claim7.holds Tryz.pinned (.plain (OpenSpec.ofChange dyadRoundsSpec)) dyadRoundsCard

/-- THE TIED CARD OF 'sparselaw02.DyadExact'. -/
def dyadExactCard : Claim7 := { stood := { row := dyadExactRow, standIns := [], harness := (true, "2abaa3be5a0f5ce6bb982382205dfa4c81759ceacbc9ce89f19b3b8a82221f48"), looks := false }, kinds := [], alts := [], laidByText := true, laidKinds := [.data], laidTests := true, laidLooks := .later }
def DyadExactCardSaid : Prop := Claim7.holds Tryz.pinned (.plain (OpenSpec.ofChange dyadExactSpec)) dyadExactCard

/-- THE SECOND FORM's CARD OF 'sparselaw02.DyadRounds'. -/
def dyadRoundsUptoCard : Claim7 := { stood := { row := dyadRoundsUptoRow, standIns := [], harness := (true, "2abaa3be5a0f5ce6bb982382205dfa4c81759ceacbc9ce89f19b3b8a82221f48"), looks := false }, kinds := [], alts := [], laidByText := true, laidKinds := [.data], laidTests := true, laidLooks := .later }
def DyadRoundsUptoCardSaid : Prop := Claim7.holds Tryz.pinned (.plain (OpenSpec.upto dyadRoundsSpec)) dyadRoundsUptoCard

/-- THE SECOND FORM's CARD OF 'sparselaw02.DyadExact'. -/
def dyadExactUptoCard : Claim7 := { stood := { row := dyadExactUptoRow, standIns := [], harness := (true, "2abaa3be5a0f5ce6bb982382205dfa4c81759ceacbc9ce89f19b3b8a82221f48"), looks := false }, kinds := [], alts := [], laidByText := true, laidKinds := [.data], laidTests := true, laidLooks := .later }
def DyadExactUptoCardSaid : Prop := Claim7.holds Tryz.pinned (.plain (OpenSpec.upto dyadExactSpec)) dyadExactUptoCard
end Rows
end Go.Proofs.YtjhngehajahbnaaGreatDoor
