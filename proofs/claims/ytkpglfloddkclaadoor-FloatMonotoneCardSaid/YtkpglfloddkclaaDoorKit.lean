/-
  Walks: package sparsekit: Limbs, Big, Dyad (equality of plain data).
-/
import Derived.Test.YtkpglfloddkclaaDoorBg
namespace Go.Proofs.YtkpglfloddkclaaDoor
open Go.RowKit Sp

/-- two dyads, field by field -/
def dyEq (b b' s s' : Bool) (x y : Nat) (f f' : Int) : Bool := (b == b') && ((f == f') && (s == s' && decide (x = y)))

end Go.Proofs.YtkpglfloddkclaaDoor

