/-
  IntervalHolds: what the row says of the program that it tells by its function.
-/
import Derived.Test.YtmpcikkimcehnaaGreatDoorZiOpen
namespace Go.Proofs.YtmpcikkimcehnaaGreatDoor
open Go.ChangeShapes Go.WideShapes Go.ChangeAt Go.RowKit Sp

set_option maxHeartbeats 8000000 in
theorem fact_unf : (Rows.intervalHoldsRow.unfollowed == Tryz.pinned.checked.prog.unfollowed 20) = true := by kernel_rfl
set_option maxHeartbeats 8000000 in
theorem fact_rec : (Rows.intervalHoldsRow.recurses == Tryz.pinned.checked.prog.recurses 20) = true := by kernel_rfl
set_option maxHeartbeats 8000000 in
theorem fact_nam : (Rows.intervalHoldsRow.named == Tryz.pinned.checked.prog.varsNamed 20) = true := by kernel_rfl
set_option maxHeartbeats 8000000 in
theorem fact_inp : (Rows.intervalHoldsRow.inPlace == Tryz.pinned.checked.prog.inPlace 20) = true := by kernel_rfl

end Go.Proofs.YtmpcikkimcehnaaGreatDoor

