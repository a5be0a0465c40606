/-
  Walks: the law AccumFree.
-/
import Derived.Test.YtgicceiimciafaaGreatDoorZwKf
namespace Go.Proofs.YtgicceiimciafaaGreatDoor
open Go.RowKit Sp
theorem dyEq_self (b s : Bool) (x : Nat) (f : Int) : dyEq b b s s x x f f = true := by unfold dyEq; simp
theorem kdyad_eq (W : World) (d : Option (Int × Int)) (a a' : Option Addr) (c c' : Nat) (h : Mag W a (nl (dman d).natAbs) c (dman d).natAbs) (h' : Mag W a' (nl (dman d).natAbs) c' (dman d).natAbs) :
 Calls Tryz.prog 10 #[.agg #[.bool (dbad d), .bool (decide (dman d < 0)), .slice a (nl (dman d).natAbs) c, .int .i64 (dexp d)], .agg #[.bool (dbad d), .bool (decide (dman d < 0)), .slice a' (nl (dman d).natAbs) c', .int .i64 (dexp d)]] W fun o w' => o = .returned (.bool true) ∧ Below W.heap.size W w' :=
 kdyad_any W _ _ _ _ _ _ _ _ _ _ _ _ _ _ h h' rfl rfl true (dyEq_self _ _ _ _).symm
end Go.Proofs.YtgicceiimciafaaGreatDoor
