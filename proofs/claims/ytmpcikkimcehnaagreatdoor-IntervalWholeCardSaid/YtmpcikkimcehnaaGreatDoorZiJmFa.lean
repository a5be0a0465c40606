/-
  IntervalWhole: what the row says of the program that it tells by its function.
-/
import Derived.Test.YtmpcikkimcehnaaGreatDoorZiOpen
namespace Go.Proofs.YtmpcikkimcehnaaGreatDoor
open Go.ChangeShapes Go.WideShapes Go.ChangeAt Go.RowKit Sp

set_option maxHeartbeats 8000000 in
theorem fact_unf : (Rows.intervalWholeRow.unfollowed == Tryz.pinned.checked.prog.unfollowed 19) = true := by kernel_rfl
set_option maxHeartbeats 8000000 in
theorem fact_rec : (Rows.intervalWholeRow.recurses == Tryz.pinned.checked.prog.recurses 19) = true := by kernel_rfl
set_option maxHeartbeats 8000000 in
theorem fact_nam : (Rows.intervalWholeRow.named == Tryz.pinned.checked.prog.varsNamed 19) = true := by kernel_rfl
set_option maxHeartbeats 8000000 in
theorem fact_inp : (Rows.intervalWholeRow.inPlace == Tryz.pinned.checked.prog.inPlace 19) = true := by kernel_rfl

end Go.Proofs.YtmpcikkimcehnaaGreatDoor

