/-
  What every card of this seat asks of the program alone, second part: how it is laid out, what it lifts.
-/
import Derived.Test.YtakbappmkdaioaaGreatDoorZlOpen
namespace Go.Proofs.YtakbappmkdaioaaGreatDoor
open Go.ChangeShapes Go.WideShapes Go.ChangeAt Go.RowKit Sp

set_option maxHeartbeats 8000000 in
theorem pf_laidOut : laidOutB Tryz.pinned.checked.prog = true := by kernel_rfl
set_option maxHeartbeats 8000000 in
theorem pf_rowed : mapsRowed Tryz.pinned.checked.prog = true := by kernel_rfl
set_option maxHeartbeats 8000000 in
theorem pf_lifts : Tryz.pinned.checked.prog.liftsFinal = false := by kernel_rfl

end Go.Proofs.YtakbappmkdaioaaGreatDoor

