/-
  Walks: the reference's dyads: Scale, Log2, Floor, align, Cmp, Add, Sub, Mul.
-/
import Derived.Test.YtgicceiimciafaaGreatDoorZeRQ
import Derived.Test.YtgicceiimciafaaGreatDoorZeBg
import Derived.Test.YtgicceiimciafaaGreatDoorZeBf
namespace Go.Proofs.YtgicceiimciafaaGreatDoor
open Go.RowKit Sp
theorem sg0 {z : Int} (h : z = 0) : (sg z == 0) = true := by rw [h]; rfl
theorem sg1 {z : Int} (h : z ≠ 0) : (sg z == 0) = false := by
 rw [beq_eq_false_iff_ne]; unfold sg cmpI; split <;> (try split) <;> omega
end Go.Proofs.YtgicceiimciafaaGreatDoor
