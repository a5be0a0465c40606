/-
  FloatExact: what the row says of the program that it tells by its function.
-/
import Derived.Test.YtakbappmkdaioaaGreatDoorZhOpen
namespace Go.Proofs.YtakbappmkdaioaaGreatDoor
open Go.ChangeShapes Go.WideShapes Go.ChangeAt Go.RowKit Sp

set_option maxHeartbeats 8000000 in
theorem fact_unf : (Rows.floatExactRow.unfollowed == Tryz.pinned.checked.prog.unfollowed 9) = true := by kernel_rfl
set_option maxHeartbeats 8000000 in
theorem fact_rec : (Rows.floatExactRow.recurses == Tryz.pinned.checked.prog.recurses 9) = true := by kernel_rfl
set_option maxHeartbeats 8000000 in
theorem fact_nam : (Rows.floatExactRow.named == Tryz.pinned.checked.prog.varsNamed 9) = true := by kernel_rfl
set_option maxHeartbeats 8000000 in
theorem fact_inp : (Rows.floatExactRow.inPlace == Tryz.pinned.checked.prog.inPlace 9) = true := by kernel_rfl

end Go.Proofs.YtakbappmkdaioaaGreatDoor

