/-
  Walks: the law AccumExact.
-/
import Derived.Test.YtgicceiimciafaaGreatDoorZwKs
import Derived.Test.YtgicceiimciafaaGreatDoorZwKA
import Derived.Test.YtgicceiimciafaaGreatDoorZwKg
import Derived.Test.YtgicceiimciafaaGreatDoorZwS3
import Derived.Test.YtgicceiimciafaaGreatDoorZwRY
import Derived.Test.YtgicceiimciafaaGreatDoorZwRQ
import Derived.Test.YtgicceiimciafaaGreatDoorZwRx
import Derived.Deep.LoopGhost
import Derived.Test.YtgicceiimciafaaGreatDoorZwCs
import Derived.Test.YtgicceiimciafaaGreatDoorZwFP
import Derived.Test.YtgicceiimciafaaGreatDoorZwBg
import Derived.Test.YtgicceiimciafaaGreatDoorZwBf
import Derived.Test.YtgicceiimciafaaGreatDoorZwCL
namespace Go.Proofs.YtgicceiimciafaaGreatDoor
open Go.RowKit Sp
attribute [local irreducible] Calls
class FZ (W : World) (a : Option Addr) (n c : Nat) (X : outParam (Nat → Nat)) : Prop where out : Fls W a n c X
section
variable {W : World} {a : Option Addr} {n c : Nat} {X : Nat → Nat}
instance FZ.dr [h : FZ W a n c X] : FZ W.drew a n c X := ⟨h.out.below (Below.refl _ _).drew⟩
instance FZ.dn (q : Nat) [h : FZ W a n c X] : FZ (W.drewN q) a n c X := ⟨h.out.below (below_drewN (Below.refl _ _) _)⟩
instance FZ.al (o : Obj) [h : FZ W a n c X] : FZ (W.alloc o) a n c X := ⟨h.out.below ((Below.refl _ _).alloc (Nat.le_refl _) _)⟩
instance FZ.fr (L : World) [k : From L W] [h : FZ L a n c X] : FZ W a n c X := ⟨h.out.below k.out⟩
end
end Go.Proofs.YtgicceiimciafaaGreatDoor
