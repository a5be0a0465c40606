/-
  DenseWidths: what the row says of the program that it tells by its function.
-/
import Derived.Test.YtablcbgeeeboeaaGreatDoorZaOpen
set_option maxHeartbeats 8000000
namespace Go.Proofs.YtablcbgeeeboeaaGreatDoor
open Go.ChangeShapes Go.WideShapes Go.ChangeAt Go.RowKit Sp
theorem fact_unf : (Rows.denseWidthsRow.unfollowed == Tryz.pinned.checked.prog.unfollowed 4) = true := by kernel_rfl
theorem fact_rec : (Rows.denseWidthsRow.recurses == Tryz.pinned.checked.prog.recurses 4) = true := by kernel_rfl
theorem fact_nam : (Rows.denseWidthsRow.named == Tryz.pinned.checked.prog.varsNamed 4) = true := by kernel_rfl
theorem fact_inp : (Rows.denseWidthsRow.inPlace == Tryz.pinned.checked.prog.inPlace 4) = true := by kernel_rfl
end Go.Proofs.YtablcbgeeeboeaaGreatDoor
