/-
  IntervalMiddle: what the row says of the program that it tells by its function.
-/
import Derived.Test.YtmpcikkimcehnaaGreatDoorZiOpen
namespace Go.Proofs.YtmpcikkimcehnaaGreatDoor
open Go.ChangeShapes Go.WideShapes Go.ChangeAt Go.RowKit Sp

set_option maxHeartbeats 8000000 in
theorem fact_unf : (Rows.intervalMiddleRow.unfollowed == Tryz.pinned.checked.prog.unfollowed 15) = true := by kernel_rfl
set_option maxHeartbeats 8000000 in
theorem fact_rec : (Rows.intervalMiddleRow.recurses == Tryz.pinned.checked.prog.recurses 15) = true := by kernel_rfl
set_option maxHeartbeats 8000000 in
theorem fact_nam : (Rows.intervalMiddleRow.named == Tryz.pinned.checked.prog.varsNamed 15) = true := by kernel_rfl
set_option maxHeartbeats 8000000 in
theorem fact_inp : (Rows.intervalMiddleRow.inPlace == Tryz.pinned.checked.prog.inPlace 15) = true := by kernel_rfl

end Go.Proofs.YtmpcikkimcehnaaGreatDoor

