/-
  Walks: the reference's package sparseref02: Bad, Make, Norm, Valid, Sign.
-/
import Derived.Test.YtakbappmkdaioaaDoorZqBf
import Derived.Test.YtakbappmkdaioaaDoorZqBe
namespace Go.Proofs.YtakbappmkdaioaaDoor
open Go.RowKit Sp

/-- an argument that is a dyad, within the bounds of the reference -/
def DyIs (w : World) (bd s : Bool) (a : Option Addr) (n cap : Nat) (e : Int) (d : Option (Int × Int)) : Prop := DyIn w bd s a n cap e d ∧ n ≤ 549755813888
theorem DyIs.below {w w' : World} {bd s : Bool} {a : Option Addr} {n cap : Nat} {e : Int} {d : Option (Int × Int)} (h : DyIs w bd s a n cap e d) (hb : Below w.heap.size w w') : DyIs w' bd s a n cap e d := ⟨h.1.below hb, h.2⟩
end Go.Proofs.YtakbappmkdaioaaDoor

