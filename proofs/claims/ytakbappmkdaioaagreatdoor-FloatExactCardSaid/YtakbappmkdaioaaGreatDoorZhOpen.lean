/-
  Parameters that are dyads, laid open: what the walks take of them; and they read as they did where nothing that was there has turned. The frame of a card.
-/
import Derived.Test.YtakbappmkdaioaaGreatDoorCards
import Derived.Test.YtakbappmkdaioaaGreatDoorTie
import Derived.WalkKit
import Derived.ProofKit
import Derived.OpenShut
import Derived.Carry
import Derived.Laws.LoneSync
import Derived.Deep.DeepHandedRow
import Derived.Lib.LaidTab
import Derived.Test.YtakbappmkdaioaaGreatDoorZhBd
namespace Go.Proofs.YtakbappmkdaioaaGreatDoor
open Go.ChangeShapes Go.WideShapes Go.ChangeAt Go.RowKit Sp

theorem lt_of_cell2 {w : World} {a : Addr} {v : Value} (h : w.cell? a = some v) : a.block < w.heap.size := by
  rcases Nat.lt_or_ge a.block w.heap.size with h1 | h1
  · exact h1
  · unfold World.cell? at h
    rw [show w.heap[a.block]? = none from Array.getElem?_eq_none h1] at h
    cases h

end Go.Proofs.YtakbappmkdaioaaGreatDoor

