/-
  FloatQuotients: what the row says of the program that it tells by its function.
-/
import Derived.Test.YtakbappmkdaioaaGreatDoorZfOpen
namespace Go.Proofs.YtakbappmkdaioaaGreatDoor
open Go.ChangeShapes Go.WideShapes Go.ChangeAt Go.RowKit Sp

set_option maxHeartbeats 8000000 in
theorem fact_unf : (Rows.floatQuotientsRow.unfollowed == Tryz.pinned.checked.prog.unfollowed 7) = true := by kernel_rfl
set_option maxHeartbeats 8000000 in
theorem fact_rec : (Rows.floatQuotientsRow.recurses == Tryz.pinned.checked.prog.recurses 7) = true := by kernel_rfl
set_option maxHeartbeats 8000000 in
theorem fact_nam : (Rows.floatQuotientsRow.named == Tryz.pinned.checked.prog.varsNamed 7) = true := by kernel_rfl
set_option maxHeartbeats 8000000 in
theorem fact_inp : (Rows.floatQuotientsRow.inPlace == Tryz.pinned.checked.prog.inPlace 7) = true := by kernel_rfl

end Go.Proofs.YtakbappmkdaioaaGreatDoor

