/-
  UpdateUntouched: what the row says of the program that it tells by its function.
-/
import Derived.Test.YtmbkgapknoammaaGreatDoorZuOpen
set_option maxHeartbeats 8000000
namespace Go.Proofs.YtmbkgapknoammaaGreatDoor
open Go.ChangeShapes Go.WideShapes Go.ChangeAt Go.RowKit Sp
theorem fact_unf:(Rows.updateUntouchedRow.unfollowed==Tryz.pinned.checked.prog.unfollowed 9)=true:=by kernel_rfl
theorem fact_rec:(Rows.updateUntouchedRow.recurses==Tryz.pinned.checked.prog.recurses 9)=true:=by kernel_rfl
theorem fact_nam:(Rows.updateUntouchedRow.named==Tryz.pinned.checked.prog.varsNamed 9)=true:=by kernel_rfl
theorem fact_inp:(Rows.updateUntouchedRow.inPlace==Tryz.pinned.checked.prog.inPlace 9)=true:=by kernel_rfl
end Go.Proofs.YtmbkgapknoammaaGreatDoor
