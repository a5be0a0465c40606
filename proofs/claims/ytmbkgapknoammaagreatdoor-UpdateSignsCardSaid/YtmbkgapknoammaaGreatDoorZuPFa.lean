/-
  What every card of this seat asks of the program alone, first part: its stops are heard.
-/
import Derived.Test.YtmbkgapknoammaaGreatDoorZuOpen
set_option maxHeartbeats 8000000
namespace Go.Proofs.YtmbkgapknoammaaGreatDoor
open Go.ChangeShapes Go.WideShapes Go.ChangeAt Go.RowKit Sp
theorem and_true_mk{a b:Bool}(h:a=true)(h':b=true):(a&&b)=true:=by rw[h,h'];rfl
theorem pf_heard:Tryz.pinned.checked.prog.stopsHeard=true:=je
end Go.Proofs.YtmbkgapknoammaaGreatDoor
