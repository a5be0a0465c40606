/-
  What every card of this seat asks of the program alone, third part: it may be entered.
-/
import Derived.Test.YtmbkgapknoammaaGreatDoorZuOpen
set_option maxHeartbeats 8000000
namespace Go.Proofs.YtmbkgapknoammaaGreatDoor
open Go.ChangeShapes Go.WideShapes Go.ChangeAt Go.RowKit Sp
theorem pf_enter:Tryz.pinned.checked.prog.mayEnter=true:=je
end Go.Proofs.YtmbkgapknoammaaGreatDoor
