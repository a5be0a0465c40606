/-
  IntervalRelations: what the row says of the program that it tells by its function.
-/
import Derived.Test.YtakbappmkdaioaaGreatDoorZlOpen
namespace Go.Proofs.YtakbappmkdaioaaGreatDoor
open Go.ChangeShapes Go.WideShapes Go.ChangeAt Go.RowKit Sp

set_option maxHeartbeats 8000000 in
theorem fact_unf : (Rows.intervalRelationsRow.unfollowed == Tryz.pinned.checked.prog.unfollowed 11) = true := by kernel_rfl
set_option maxHeartbeats 8000000 in
theorem fact_rec : (Rows.intervalRelationsRow.recurses == Tryz.pinned.checked.prog.recurses 11) = true := by kernel_rfl
set_option maxHeartbeats 8000000 in
theorem fact_nam : (Rows.intervalRelationsRow.named == Tryz.pinned.checked.prog.varsNamed 11) = true := by kernel_rfl
set_option maxHeartbeats 8000000 in
theorem fact_inp : (Rows.intervalRelationsRow.inPlace == Tryz.pinned.checked.prog.inPlace 11) = true := by kernel_rfl

end Go.Proofs.YtakbappmkdaioaaGreatDoor

