/-
  UpdateSigns: what the row says of the program that it tells by its function.
-/
import Derived.Test.YtmbkgapknoammaaGreatDoorZuOpen
set_option maxHeartbeats 8000000
namespace Go.Proofs.YtmbkgapknoammaaGreatDoor
open Go.ChangeShapes Go.WideShapes Go.ChangeAt Go.RowKit Sp
theorem fact_unf:(Rows.updateSignsRow.unfollowed==Tryz.pinned.checked.prog.unfollowed 5)=true:=by kernel_rfl
theorem fact_rec:(Rows.updateSignsRow.recurses==Tryz.pinned.checked.prog.recurses 5)=true:=by kernel_rfl
theorem fact_nam:(Rows.updateSignsRow.named==Tryz.pinned.checked.prog.varsNamed 5)=true:=by kernel_rfl
theorem fact_inp:(Rows.updateSignsRow.inPlace==Tryz.pinned.checked.prog.inPlace 5)=true:=by kernel_rfl
end Go.Proofs.YtmbkgapknoammaaGreatDoor
