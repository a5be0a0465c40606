/-
  IntervalMeets: what the row says of the program that it tells by its function.
-/
import Derived.Test.YtmpcikkimcehnaaGreatDoorZiOpen
namespace Go.Proofs.YtmpcikkimcehnaaGreatDoor
open Go.ChangeShapes Go.WideShapes Go.ChangeAt Go.RowKit Sp

set_option maxHeartbeats 8000000 in
theorem fact_unf : (Rows.intervalMeetsRow.unfollowed == Tryz.pinned.checked.prog.unfollowed 10) = true := by kernel_rfl
set_option maxHeartbeats 8000000 in
theorem fact_rec : (Rows.intervalMeetsRow.recurses == Tryz.pinned.checked.prog.recurses 10) = true := by kernel_rfl
set_option maxHeartbeats 8000000 in
theorem fact_nam : (Rows.intervalMeetsRow.named == Tryz.pinned.checked.prog.varsNamed 10) = true := by kernel_rfl
set_option maxHeartbeats 8000000 in
theorem fact_inp : (Rows.intervalMeetsRow.inPlace == Tryz.pinned.checked.prog.inPlace 10) = true := by kernel_rfl

end Go.Proofs.YtmpcikkimcehnaaGreatDoor

