/-
  DenseChecks: what the row says of the program that it tells by its function.
-/
import Derived.Test.YtablcbgeeeboeaaGreatDoorZdOpen
set_option maxHeartbeats 8000000
namespace Go.Proofs.YtablcbgeeeboeaaGreatDoor
open Go.ChangeShapes Go.WideShapes Go.ChangeAt Go.RowKit Sp
theorem fact_unf : (Rows.denseChecksRow.unfollowed == Tryz.pinned.checked.prog.unfollowed 7) = true := by kernel_rfl
theorem fact_rec : (Rows.denseChecksRow.recurses == Tryz.pinned.checked.prog.recurses 7) = true := by kernel_rfl
theorem fact_nam : (Rows.denseChecksRow.named == Tryz.pinned.checked.prog.varsNamed 7) = true := by kernel_rfl
theorem fact_inp : (Rows.denseChecksRow.inPlace == Tryz.pinned.checked.prog.inPlace 7) = true := by kernel_rfl
end Go.Proofs.YtablcbgeeeboeaaGreatDoor
