/-
  What every card of this seat asks of the program alone, second part: how it is laid out, what it lifts.
-/
import Derived.Test.YtablcbgeeeboeaaGreatDoorZhOpen
set_option maxHeartbeats 8000000
namespace Go.Proofs.YtablcbgeeeboeaaGreatDoor
open Go.ChangeShapes Go.WideShapes Go.ChangeAt Go.RowKit Sp
theorem pf_laidOut : laidOutB Tryz.pinned.checked.prog = true := by kernel_rfl
theorem pf_rowed : mapsRowed Tryz.pinned.checked.prog = true := by kernel_rfl
theorem pf_lifts : Tryz.pinned.checked.prog.liftsFinal = false := by kernel_rfl
end Go.Proofs.YtablcbgeeeboeaaGreatDoor
