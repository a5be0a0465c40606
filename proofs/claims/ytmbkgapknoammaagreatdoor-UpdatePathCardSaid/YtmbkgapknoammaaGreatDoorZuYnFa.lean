/-
  UpdatePath: what the row says of the program that it tells by its function.
-/
import Derived.Test.YtmbkgapknoammaaGreatDoorZuOpen
set_option maxHeartbeats 8000000
namespace Go.Proofs.YtmbkgapknoammaaGreatDoor
open Go.ChangeShapes Go.WideShapes Go.ChangeAt Go.RowKit Sp
theorem fact_unf:(Rows.updatePathRow.unfollowed==Tryz.pinned.checked.prog.unfollowed 7)=true:=je
theorem fact_rec:(Rows.updatePathRow.recurses==Tryz.pinned.checked.prog.recurses 7)=true:=je
theorem fact_nam:(Rows.updatePathRow.named==Tryz.pinned.checked.prog.varsNamed 7)=true:=je
theorem fact_inp:(Rows.updatePathRow.inPlace==Tryz.pinned.checked.prog.inPlace 7)=true:=je
end Go.Proofs.YtmbkgapknoammaaGreatDoor
