/-
  AccumFree: what the row says of the program that it tells by its function.
-/
import Derived.Test.YtmpcikkimcehnaaGreatDoorZaOpen
namespace Go.Proofs.YtmpcikkimcehnaaGreatDoor
open Go.ChangeShapes Go.WideShapes Go.ChangeAt Go.RowKit Sp

set_option maxHeartbeats 8000000 in
theorem fact_unf : (Rows.accumFreeRow.unfollowed == Tryz.pinned.checked.prog.unfollowed 5) = true := by kernel_rfl
set_option maxHeartbeats 8000000 in
theorem fact_rec : (Rows.accumFreeRow.recurses == Tryz.pinned.checked.prog.recurses 5) = true := by kernel_rfl
set_option maxHeartbeats 8000000 in
theorem fact_nam : (Rows.accumFreeRow.named == Tryz.pinned.checked.prog.varsNamed 5) = true := by kernel_rfl
set_option maxHeartbeats 8000000 in
theorem fact_inp : (Rows.accumFreeRow.inPlace == Tryz.pinned.checked.prog.inPlace 5) = true := by kernel_rfl

end Go.Proofs.YtmpcikkimcehnaaGreatDoor

