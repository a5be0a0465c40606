/-
  IntervalPoints: what the row says of the program that it tells by its function.
-/
import Derived.Test.YtakbappmkdaioaaDoorZqOpen
namespace Go.Proofs.YtakbappmkdaioaaDoor
open Go.ChangeShapes Go.WideShapes Go.ChangeAt Go.RowKit Sp

set_option maxHeartbeats 8000000 in
theorem fact_unf : (Rows.intervalPointsRow.unfollowed == Tryd.pinned.checked.prog.unfollowed 3) = true := by kernel_rfl
set_option maxHeartbeats 8000000 in
theorem fact_rec : (Rows.intervalPointsRow.recurses == Tryd.pinned.checked.prog.recurses 3) = true := by kernel_rfl
set_option maxHeartbeats 8000000 in
theorem fact_nam : (Rows.intervalPointsRow.named == Tryd.pinned.checked.prog.varsNamed 3) = true := by kernel_rfl
set_option maxHeartbeats 8000000 in
theorem fact_inp : (Rows.intervalPointsRow.inPlace == Tryd.pinned.checked.prog.inPlace 3) = true := by kernel_rfl

end Go.Proofs.YtakbappmkdaioaaDoor

