/-
  DenseMultiplies: what the row says of the program that it tells by its function.
-/
import Derived.Test.YtablcbgeeeboeaaGreatDoorZfOpen
set_option maxHeartbeats 8000000
namespace Go.Proofs.YtablcbgeeeboeaaGreatDoor
open Go.ChangeShapes Go.WideShapes Go.ChangeAt Go.RowKit Sp
theorem fact_unf : (Rows.denseMultipliesRow.unfollowed == Tryz.pinned.checked.prog.unfollowed 10) = true := by kernel_rfl
theorem fact_rec : (Rows.denseMultipliesRow.recurses == Tryz.pinned.checked.prog.recurses 10) = true := by kernel_rfl
theorem fact_nam : (Rows.denseMultipliesRow.named == Tryz.pinned.checked.prog.varsNamed 10) = true := by kernel_rfl
theorem fact_inp : (Rows.denseMultipliesRow.inPlace == Tryz.pinned.checked.prog.inPlace 10) = true := by kernel_rfl
end Go.Proofs.YtablcbgeeeboeaaGreatDoor
