/-
  Walks: package dyad, round.go: Quo.
-/
import Derived.Test.YtakbappmkdaioaaGreatDoorZkBh
import Derived.Test.YtakbappmkdaioaaGreatDoorZkRat
namespace Go.Proofs.YtakbappmkdaioaaGreatDoor
open Go.RowKit Sp

/-- A call's result: a real number, its magnitude a natural one. -/
def RetReN (w : World) (s : Bool) (x : Nat) (E : Int) (more : Bool) (e : Ending) (w' : World) : Prop :=
  ∃ a c, e = .returned (.agg #[.bool s, .bool false, .slice a (nl x) c, .int .i64 E, .bool more]) ∧ Mag w' a (nl x) c x ∧ Below w.heap.size w w' ∧ (0 < nl x → w.heap.size ≤ ab a)
end Go.Proofs.YtakbappmkdaioaaGreatDoor

