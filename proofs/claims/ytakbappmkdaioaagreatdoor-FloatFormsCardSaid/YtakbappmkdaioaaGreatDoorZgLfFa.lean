/-
  FloatForms: what the row says of the program that it tells by its function.
-/
import Derived.Test.YtakbappmkdaioaaGreatDoorZfOpen
namespace Go.Proofs.YtakbappmkdaioaaGreatDoor
open Go.ChangeShapes Go.WideShapes Go.ChangeAt Go.RowKit Sp

set_option maxHeartbeats 8000000 in
theorem fact_unf : (Rows.floatFormsRow.unfollowed == Tryz.pinned.checked.prog.unfollowed 8) = true := by kernel_rfl
set_option maxHeartbeats 8000000 in
theorem fact_rec : (Rows.floatFormsRow.recurses == Tryz.pinned.checked.prog.recurses 8) = true := by kernel_rfl
set_option maxHeartbeats 8000000 in
theorem fact_nam : (Rows.floatFormsRow.named == Tryz.pinned.checked.prog.varsNamed 8) = true := by kernel_rfl
set_option maxHeartbeats 8000000 in
theorem fact_inp : (Rows.floatFormsRow.inPlace == Tryz.pinned.checked.prog.inPlace 8) = true := by kernel_rfl

end Go.Proofs.YtakbappmkdaioaaGreatDoor

