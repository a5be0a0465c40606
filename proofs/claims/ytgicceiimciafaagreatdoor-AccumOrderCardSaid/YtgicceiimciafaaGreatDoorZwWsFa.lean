/-
  AccumOrder: what the row says of the program that it tells by its function.
-/
import Derived.Test.YtgicceiimciafaaGreatDoorZwOpen
set_option maxHeartbeats 8000000
namespace Go.Proofs.YtgicceiimciafaaGreatDoor
open Go.ChangeShapes Go.WideShapes Go.ChangeAt Go.RowKit Sp
theorem fact_unf : (Rows.accumOrderRow.unfollowed == Tryz.pinned.checked.prog.unfollowed 3) = true := by kernel_rfl
theorem fact_rec : (Rows.accumOrderRow.recurses == Tryz.pinned.checked.prog.recurses 3) = true := by kernel_rfl
theorem fact_nam : (Rows.accumOrderRow.named == Tryz.pinned.checked.prog.varsNamed 3) = true := by kernel_rfl
theorem fact_inp : (Rows.accumOrderRow.inPlace == Tryz.pinned.checked.prog.inPlace 3) = true := by kernel_rfl
end Go.Proofs.YtgicceiimciafaaGreatDoor
