/-
  AccumCauchy: what the row says of the program that it tells by its function.
-/
import Derived.Test.YtmpcikkimcehnaaGreatDoorZbOpen
namespace Go.Proofs.YtmpcikkimcehnaaGreatDoor
open Go.ChangeShapes Go.WideShapes Go.ChangeAt Go.RowKit Sp

set_option maxHeartbeats 8000000 in
theorem fact_unf : (Rows.accumCauchyRow.unfollowed == Tryz.pinned.checked.prog.unfollowed 9) = true := by kernel_rfl
set_option maxHeartbeats 8000000 in
theorem fact_rec : (Rows.accumCauchyRow.recurses == Tryz.pinned.checked.prog.recurses 9) = true := by kernel_rfl
set_option maxHeartbeats 8000000 in
theorem fact_nam : (Rows.accumCauchyRow.named == Tryz.pinned.checked.prog.varsNamed 9) = true := by kernel_rfl
set_option maxHeartbeats 8000000 in
theorem fact_inp : (Rows.accumCauchyRow.inPlace == Tryz.pinned.checked.prog.inPlace 9) = true := by kernel_rfl

end Go.Proofs.YtmpcikkimcehnaaGreatDoor

