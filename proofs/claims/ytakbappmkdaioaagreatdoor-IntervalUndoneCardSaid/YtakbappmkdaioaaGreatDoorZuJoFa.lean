/-
  IntervalUndone: what the row says of the program that it tells by its function.
-/
import Derived.Test.YtakbappmkdaioaaGreatDoorZuOpen
namespace Go.Proofs.YtakbappmkdaioaaGreatDoor
open Go.ChangeShapes Go.WideShapes Go.ChangeAt Go.RowKit Sp

set_option maxHeartbeats 8000000 in
theorem fact_unf : (Rows.intervalUndoneRow.unfollowed == Tryz.pinned.checked.prog.unfollowed 13) = true := by kernel_rfl
set_option maxHeartbeats 8000000 in
theorem fact_rec : (Rows.intervalUndoneRow.recurses == Tryz.pinned.checked.prog.recurses 13) = true := by kernel_rfl
set_option maxHeartbeats 8000000 in
theorem fact_nam : (Rows.intervalUndoneRow.named == Tryz.pinned.checked.prog.varsNamed 13) = true := by kernel_rfl
set_option maxHeartbeats 8000000 in
theorem fact_inp : (Rows.intervalUndoneRow.inPlace == Tryz.pinned.checked.prog.inPlace 13) = true := by kernel_rfl

end Go.Proofs.YtakbappmkdaioaaGreatDoor

