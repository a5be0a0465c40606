/-
  IntervalMonotone: what the row says of the program that it tells by its function.
-/
import Derived.Test.YtmpcikkimcehnaaGreatDoorZiOpen
namespace Go.Proofs.YtmpcikkimcehnaaGreatDoor
open Go.ChangeShapes Go.WideShapes Go.ChangeAt Go.RowKit Sp

set_option maxHeartbeats 8000000 in
theorem fact_unf : (Rows.intervalMonotoneRow.unfollowed == Tryz.pinned.checked.prog.unfollowed 18) = true := by kernel_rfl
set_option maxHeartbeats 8000000 in
theorem fact_rec : (Rows.intervalMonotoneRow.recurses == Tryz.pinned.checked.prog.recurses 18) = true := by kernel_rfl
set_option maxHeartbeats 8000000 in
theorem fact_nam : (Rows.intervalMonotoneRow.named == Tryz.pinned.checked.prog.varsNamed 18) = true := by kernel_rfl
set_option maxHeartbeats 8000000 in
theorem fact_inp : (Rows.intervalMonotoneRow.inPlace == Tryz.pinned.checked.prog.inPlace 18) = true := by kernel_rfl

end Go.Proofs.YtmpcikkimcehnaaGreatDoor

