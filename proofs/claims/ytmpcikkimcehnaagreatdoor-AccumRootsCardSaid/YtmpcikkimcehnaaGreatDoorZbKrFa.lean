/-
  AccumRoots: what the row says of the program that it tells by its function.
-/
import Derived.Test.YtmpcikkimcehnaaGreatDoorZbOpen
namespace Go.Proofs.YtmpcikkimcehnaaGreatDoor
open Go.ChangeShapes Go.WideShapes Go.ChangeAt Go.RowKit Sp

set_option maxHeartbeats 8000000 in
theorem fact_unf : (Rows.accumRootsRow.unfollowed == Tryz.pinned.checked.prog.unfollowed 12) = true := by kernel_rfl
set_option maxHeartbeats 8000000 in
theorem fact_rec : (Rows.accumRootsRow.recurses == Tryz.pinned.checked.prog.recurses 12) = true := by kernel_rfl
set_option maxHeartbeats 8000000 in
theorem fact_nam : (Rows.accumRootsRow.named == Tryz.pinned.checked.prog.varsNamed 12) = true := by kernel_rfl
set_option maxHeartbeats 8000000 in
theorem fact_inp : (Rows.accumRootsRow.inPlace == Tryz.pinned.checked.prog.inPlace 12) = true := by kernel_rfl

end Go.Proofs.YtmpcikkimcehnaaGreatDoor

