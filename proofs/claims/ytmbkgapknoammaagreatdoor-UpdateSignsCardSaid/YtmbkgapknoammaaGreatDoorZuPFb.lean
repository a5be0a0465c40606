/-
  What every card of this seat asks of the program alone, second part: how it is laid out, what it lifts.
-/
import Derived.Test.YtmbkgapknoammaaGreatDoorZuOpen
set_option maxHeartbeats 8000000
namespace Go.Proofs.YtmbkgapknoammaaGreatDoor
open Go.ChangeShapes Go.WideShapes Go.ChangeAt Go.RowKit Sp
theorem pf_laidOut:laidOutB Tryz.pinned.checked.prog=true:=je
theorem pf_rowed:mapsRowed Tryz.pinned.checked.prog=true:=je
theorem pf_lifts:Tryz.pinned.checked.prog.liftsFinal=false:=je
end Go.Proofs.YtmbkgapknoammaaGreatDoor
