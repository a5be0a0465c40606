/-
  DenseAssembles: what the row says of the program that it tells by its function.
-/
import Derived.Test.YtablcbgeeeboeaaGreatDoorZfOpen
set_option maxHeartbeats 8000000
namespace Go.Proofs.YtablcbgeeeboeaaGreatDoor
open Go.ChangeShapes Go.WideShapes Go.ChangeAt Go.RowKit Sp
theorem fact_unf : (Rows.denseAssemblesRow.unfollowed == Tryz.pinned.checked.prog.unfollowed 8) = true := by kernel_rfl
theorem fact_rec : (Rows.denseAssemblesRow.recurses == Tryz.pinned.checked.prog.recurses 8) = true := by kernel_rfl
theorem fact_nam : (Rows.denseAssemblesRow.named == Tryz.pinned.checked.prog.varsNamed 8) = true := by kernel_rfl
theorem fact_inp : (Rows.denseAssemblesRow.inPlace == Tryz.pinned.checked.prog.inPlace 8) = true := by kernel_rfl
end Go.Proofs.YtablcbgeeeboeaaGreatDoor
