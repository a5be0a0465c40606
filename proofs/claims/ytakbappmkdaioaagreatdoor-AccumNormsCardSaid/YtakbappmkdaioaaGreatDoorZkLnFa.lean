/-
  AccumNorms: what the row says of the program that it tells by its function.
-/
import Derived.Test.YtakbappmkdaioaaGreatDoorZkOpen
namespace Go.Proofs.YtakbappmkdaioaaGreatDoor
open Go.ChangeShapes Go.WideShapes Go.ChangeAt Go.RowKit Sp

set_option maxHeartbeats 8000000 in
theorem fact_unf : (Rows.accumNormsRow.unfollowed == Tryz.pinned.checked.prog.unfollowed 10) = true := by kernel_rfl
set_option maxHeartbeats 8000000 in
theorem fact_rec : (Rows.accumNormsRow.recurses == Tryz.pinned.checked.prog.recurses 10) = true := by kernel_rfl
set_option maxHeartbeats 8000000 in
theorem fact_nam : (Rows.accumNormsRow.named == Tryz.pinned.checked.prog.varsNamed 10) = true := by kernel_rfl
set_option maxHeartbeats 8000000 in
theorem fact_inp : (Rows.accumNormsRow.inPlace == Tryz.pinned.checked.prog.inPlace 10) = true := by kernel_rfl

end Go.Proofs.YtakbappmkdaioaaGreatDoor

