/-
  DenseContribution: what the row says of the program that it tells by its function.
-/
import Derived.Test.YtablcbgeeeboeaaGreatDoorZaOpen
set_option maxHeartbeats 8000000
namespace Go.Proofs.YtablcbgeeeboeaaGreatDoor
open Go.ChangeShapes Go.WideShapes Go.ChangeAt Go.RowKit Sp
theorem fact_unf : (Rows.denseContributionRow.unfollowed == Tryz.pinned.checked.prog.unfollowed 6) = true := by kernel_rfl
theorem fact_rec : (Rows.denseContributionRow.recurses == Tryz.pinned.checked.prog.recurses 6) = true := by kernel_rfl
theorem fact_nam : (Rows.denseContributionRow.named == Tryz.pinned.checked.prog.varsNamed 6) = true := by kernel_rfl
theorem fact_inp : (Rows.denseContributionRow.inPlace == Tryz.pinned.checked.prog.inPlace 6) = true := by kernel_rfl
end Go.Proofs.YtablcbgeeeboeaaGreatDoor
